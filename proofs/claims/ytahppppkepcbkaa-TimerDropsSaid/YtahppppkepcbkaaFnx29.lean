-- Written by program (a turned copy of the kit's print) for this seat: functions, contracts. Lean checks it.
import Derived.Test.YtahppppkepcbkaaFnx0
import Derived.Test.YtahppppkepcbkaaFnx1
import Derived.Test.YtahppppkepcbkaaFnx27
namespace Go.Proofs.Ytahppppkepcbkaa.Fn
open Go.RowKit Go.Proofs.YtahppppkepcbkaaW.PrintWords Go.Proofs.YtahppppkepcbkaaW.PrintLast Go.Proofs.YtahppppkepcbkaaW.PrintMore
attribute [local go_sem] max2_int min2_int max_two min_two max_three min_three max_four min_four   -- for this text's walks alone
set_option linter.unusedVariables false
set_option linter.unusedSimpArgs false

attribute [local go_sem high] eqA52
/-! ### tattleref03_Sort: function 35 -/
mutual
def tattleref03_Sort.l0 : Nat → List (S52) → List (S52) → Int → Option ((List (S52)))
  | 0, _, _, _ => none
  | k + 1, x0, x3, x4 => if x4 < (x0.length : Int) then (tattleref03_Sort.l1 k x0 x3 x4 0 0) else (some x3)
def tattleref03_Sort.l1 : Nat → List (S52) → List (S52) → Int → Int → Int → Option ((List (S52)))
  | 0, _, _, _, _, _ => none
  | k + 1, x0, x3, x4, x5, x6 => if x6 < (x0.length : Int) then (if 0 ≤ x6 then (if 0 ≤ x4 then (if x4 < (x0.length : Int) then ((tattleref03_Less.f ((rd_T52 x0 x6).f0) ((rd_T52 x0 x6).f1) ((rd_T52 x0 x6).f2) ((rd_T52 x0 x6).f3) ((rd_T52 x0 x4).f0) ((rd_T52 x0 x4).f1) ((rd_T52 x0 x4).f2) ((rd_T52 x0 x4).f3)).bind fun t423 => (if t423 = true then (tattleref03_Sort.l1 k x0 x3 x4 (wrap64 (x5 + 1)) (wrap64 (x6 + 1))) else (if (((rd_T52 x0 x6).f0) == ((rd_T52 x0 x4).f0) && (((rd_T52 x0 x6).f1) == ((rd_T52 x0 x4).f1) && (((rd_T52 x0 x6).f2) == ((rd_T52 x0 x4).f2) && (((rd_T52 x0 x6).f3) == ((rd_T52 x0 x4).f3))))) = true then (if x6 < x4 then (tattleref03_Sort.l1 k x0 x3 x4 (wrap64 (x5 + 1)) (wrap64 (x6 + 1))) else (tattleref03_Sort.l1 k x0 x3 x4 x5 (wrap64 (x6 + 1)))) else (tattleref03_Sort.l1 k x0 x3 x4 x5 (wrap64 (x6 + 1)))))) else (none)) else (none)) else (none)) else (if 0 ≤ x4 then (if x4 < (x0.length : Int) then (if 0 ≤ x5 then (if x5 < (x3.length : Int) then (tattleref03_Sort.l0 k x0 (x3.set (x5 : Int).toNat (⟨(rd_T52 x0 x4).f0, (rd_T52 x0 x4).f1, (rd_T52 x0 x4).f2, (rd_T52 x0 x4).f3⟩ : S52)) (wrap64 (x4 + 1))) else (none)) else (none)) else (none)) else (none))
end
def tattleref03_Sort.f (k : Nat) (l0 : List (S52)) : Option ((List (S52))) := if 0 ≤ (l0.length : Int) then (if ((l0.length : Int) : Int).toNat ≤ 8796093022208 then (tattleref03_Sort.l0 k l0 (List.replicate ((l0.length : Int) : Int).toNat z52) 0) else (none)) else (none)
theorem tattleref03_Sort.mono_l : ∀ k, (∀ y0 y1 y2, LeO (tattleref03_Sort.l0 k y0 y1 y2) (tattleref03_Sort.l0 (k + 1) y0 y1 y2)) ∧ (∀ y0 y1 y2 y3 y4, LeO (tattleref03_Sort.l1 k y0 y1 y2 y3 y4) (tattleref03_Sort.l1 (k + 1) y0 y1 y2 y3 y4))
  | 0 => ⟨fun _ _ _ r h => by simp [tattleref03_Sort.l0] at h, fun _ _ _ _ _ r h => by simp [tattleref03_Sort.l1] at h⟩
  | k + 1 => by
    obtain ⟨ih0, ih1⟩ := tattleref03_Sort.mono_l k
    refine ⟨?_, ?_⟩
    · intro y0 y1 y2
      unfold tattleref03_Sort.l0
      repeat' first
      | (with_reducible exact ih0 _ _ _)
      | (with_reducible exact ih1 _ _ _ _ _)
      | (with_reducible exact LeO.refl _)
      | (with_reducible exact LeO.none _)
      | (with_reducible refine LeO.ite ?_ ?_)
      | (with_reducible refine LeO.bind ?_ (fun _ => ?_))
      | exact ih0 _ _ _
      | exact ih1 _ _ _ _ _
      | exact LeO.none _
      | refine LeO.ite ?_ ?_
      | refine LeO.bind ?_ (fun _ => ?_)
    · intro y0 y1 y2 y3 y4
      unfold tattleref03_Sort.l1
      repeat' first
      | (with_reducible exact ih0 _ _ _)
      | (with_reducible exact ih1 _ _ _ _ _)
      | (with_reducible exact LeO.refl _)
      | (with_reducible exact LeO.none _)
      | (with_reducible refine LeO.ite ?_ ?_)
      | (with_reducible refine LeO.bind ?_ (fun _ => ?_))
      | exact ih0 _ _ _
      | exact ih1 _ _ _ _ _
      | exact LeO.none _
      | refine LeO.ite ?_ ?_
      | refine LeO.bind ?_ (fun _ => ?_)
theorem tattleref03_Sort.mono : ∀ a0 k, LeO (tattleref03_Sort.f k a0) (tattleref03_Sort.f (k + 1) a0) := by
  intro a0 k
  obtain ⟨ih0, ih1⟩ := tattleref03_Sort.mono_l k
  unfold tattleref03_Sort.f
  repeat' first
      | (with_reducible exact ih0 _ _ _)
      | (with_reducible exact ih1 _ _ _ _ _)
      | (with_reducible exact LeO.refl _)
      | (with_reducible exact LeO.none _)
      | (with_reducible refine LeO.ite ?_ ?_)
      | (with_reducible refine LeO.bind ?_ (fun _ => ?_))
      | exact ih0 _ _ _
      | exact ih1 _ _ _ _ _
      | exact LeO.none _
      | refine LeO.ite ?_ ?_
      | refine LeO.bind ?_ (fun _ => ?_)
def tattleref03_Sort.T9 : Bool × List (List Nat × List Nat) := (true, [([], []), ([], []), ([0, 1], [0, 1]), ([2], [2]), ([], []), ([], []), ([4, 5], [4, 5]), ([6], [6]), ([3, 7], [3, 7]), ([8, 8], [8]), ([9], [9]), ([9], [9]), ([10, 11, 9], [9, 10, 11]), ([12, 9], [9, 12]), ([9], [9]), ([9], [9]), ([14, 15, 9], [9, 14, 15]), ([16, 9], [9, 16]), ([13, 17, 9], [9, 13, 17]), ([18, 9, 9], [9, 18]), ([19], [19]), ([19], [19]), ([20, 21, 19], [19, 20, 21]), ([19, 22, 9], [9, 19, 22]), ([9, 23], [9, 23])])
def tattleref03_Sort.B9 : List Nat := [0, 0, 3, 7, 0, 0, 48, 112, 255, 511, 1023, 1023, 4095, 8191, 1023, 1023, 50175, 115711, 262143, 524287, 1048575, 1048575, 4194303, 8388607, 16777215]
theorem tattleref03_Sort.tab9 : rtab .any (opsOf Try.f35 9) = tattleref03_Sort.T9 := by kernel_rfl
theorem tattleref03_Sort.bits9 : waitsOk tattleref03_Sort.T9.2 tattleref03_Sort.B9 = true := by kernel_rfl
set_option maxHeartbeats 8000000 in
set_option maxRecDepth 100000 in
theorem tattleref03_Sort.calls (k : Nat) (A0 : Option Addr) (c0 : Nat) (l0 : List (S52)) (r : List (S52)) (w : World) (hr0 : Kd.C k52 w A0 l0.length l0) (hc0 : l0.length ≤ c0) (h : tattleref03_Sort.f k l0 = some r) :
    Calls Try.prog 35 #[.slice A0 l0.length c0] w fun e w' => ∃ v0_ : Value, e = .returned (v0_) ∧ Kd.R k52 52 w' w.heap.size (fun _ => True) v0_ r ∧ Below w.heap.size w w' := by
  have hu52 := Try.underlying52
  have HR0 := Aside0.mk hr0
  have HC0 := Aside0.mk hc0
  clear hr0 hc0
  have HB := Aside0.mk (Below.refl w.heap.size w)
  have H : (if 0 ≤ (l0.length : Int) then (if ((l0.length : Int) : Int).toNat ≤ 8796093022208 then (tattleref03_Sort.l0 k l0 (List.replicate ((l0.length : Int) : Int).toNat z52) 0) else (none)) else (none)) = some r := h
  clear h
  by_cases c2 : 0 ≤ (l0.length : Int)
  · rw [if_pos c2] at H
    have c2b0 := eq_true c2
    have c2b1 : decide (0 ≤ (l0.length : Int)) = true := decide_eq_true c2
    clear c2
    by_cases c3 : ((l0.length : Int) : Int).toNat ≤ 8796093022208
    · rw [if_pos c3] at H
      have c3b0 := eq_true c3
      have c3b1 : decide (((l0.length : Int) : Int).toNat ≤ 8796093022208) = true := decide_eq_true c3
      clear c3
      obtain ⟨y418, hy418⟩ : ∃ y_ : List (S52), y_ = (List.replicate ((l0.length : Int) : Int).toNat z52) := ⟨_, rfl⟩
      replace H : (tattleref03_Sort.l0 k l0 y418 0) = some r := by first | (rw [hy418]; with_reducible exact H) | (have H2_ := (Option.bind_some _ _).symm.trans H; rw [hy418]; with_reducible exact H2_) | (have H2_ := (Option.bind_some _ _).symm.trans H; with_reducible exact H2_) | with_reducible exact H | (rw [hy418]; exact H) | exact H
      have Ny418 := Aside0.mk hy418
      clear hy418
      have H' := Aside0.mk H
      clear H
      go_enter Try.func35, Try.ntmps35
      go_wp2_with (first | ((with_reducible refine gate_dst (N := 9) rfl ?_); refine Kd.R_make k52 _ 52 rfl (N := 9) rfl 54 _ _ rfl (l0.length : Int) rfl rfl Try.underlying54 (.agg #[(.int .i64 0), (.int .i64 0), (.int .i64 0), (.int .u64 0)]) 32 info52 rfl (by decide) (by omega) z52 (ok := fun _ => True) (okp := fun _ => True) (k52_mkM _ _ _ z52 ) (fun _ hk => hk) trivial (of_decide_eq_true (by first | (with_reducible assumption) | assumption)) (Nat.le_trans (Nat.mul_le_mul_right _ (of_decide_eq_true (by first | (with_reducible assumption) | assumption) : (l0.length : Int).toNat ≤ 8796093022208)) (by omega)) (Below.refl _ _) (Nat.le_refl _) ?_; intro v419 w4 ho5 hb hg_ hnew_; clear hg_ hnew_; (first | rw [← Ny418.out] at ho5 | (simp only [Int.reduceToNat] at ho5; rw [← Ny418.out] at ho5)); have n0_ := Aside0.mk (Kd.R_lower ho5 (below_size (by repeat (first | (with_reducible first | exact HB.out | apply below_alloc | apply pw_below_drewN | apply below_drew1) | exact HB.out)))); have n1_ := Aside0.mk (below_step (by repeat (first | (with_reducible first | exact HB.out | apply below_alloc | apply pw_below_drewN | apply below_drew1) | exact HB.out)) hb); clear HB; have HO420 := n0_; have HB := n1_; clear n0_ n1_; clear hb ho5))
      go_loopg [4] k (fun kq v4 w' => ∃ (x3_1 : List (S52)) (x4_1 : Int), v4 = .int .i64 x4_1 ∧ Aside0 (tattleref03_Sort.l0 kq l0 x3_1 x4_1 = some r) ∧ Aside0 (kq ≤ k) ∧ Aside0 (Kd.R k52 52 w' w.heap.size (fun _ => True) v419 x3_1) ∧ Aside0 (Below w.heap.size w w'))
      case atStart => exact ⟨(y418), (0), (by first | rfl | (simp; done) | (simp [*]; done)), H', ⟨Nat.le_refl _⟩, ⟨by (with_reducible repeat (first | apply Kd.R_alloc | apply Kd.R_drewN | apply Kd.R_drew)); exact HO420.out⟩, ⟨by repeat (first | (with_reducible first | exact HB.out | apply below_alloc | apply pw_below_drewN | apply below_drew1) | exact HB.out)⟩⟩
      case round =>
        clear H'
        try clear c2
        try clear c2b0
        try clear c2b1
        try clear p2
        try clear c3
        try clear c3b0
        try clear c3b1
        obtain ⟨x3_1, x4_1, rfl, HA, HK1, HO_3, HB⟩ := hrel
        cases gk with
        | zero => exact absurd HA.out (by simp [tattleref03_Sort.l0])
        | succ k1 =>
          have H := HA.out
          clear HA
          simp only [tattleref03_Sort.l0] at H
          by_cases c6 : x4_1 < (l0.length : Int)
          · rw [if_pos c6] at H
            have c6b0 : decide (x4_1 < (l0.length : Int)) = true := decide_eq_true c6
            clear c6
            have H' := Aside0.mk H
            clear H
            go_wp2
            go_loopg [5, 6] k1 (fun kq v5 v6 w' => ∃ (x5_2 : Int) (x6_2 : Int), v5 = .int .i64 x5_2 ∧ v6 = .int .i64 x6_2 ∧ Aside0 (tattleref03_Sort.l1 kq l0 x3_1 x4_1 x5_2 x6_2 = some r) ∧ Aside0 (kq ≤ k1) ∧ Aside0 (Kd.R k52 52 w' w.heap.size (fun _ => True) v419 x3_1) ∧ Aside0 (Below w.heap.size w w'))
            case atStart => exact ⟨(0), (0), (by first | rfl | (simp; done) | (simp [*]; done)), (by first | rfl | (simp; done) | (simp [*]; done)), H', ⟨Nat.le_refl _⟩, ⟨by (with_reducible repeat (first | apply Kd.R_alloc | apply Kd.R_drewN | apply Kd.R_drew)); exact HO_3.out⟩, ⟨by repeat (first | (with_reducible first | exact HB.out | apply below_alloc | apply pw_below_drewN | apply below_drew1) | exact HB.out)⟩⟩
            case round =>
              clear H'
              try clear c2
              try clear c2b0
              try clear c2b1
              try clear p2
              try clear c3
              try clear c3b0
              try clear c3b1
              try clear c6
              try clear c6b0
              try clear p2
              obtain ⟨x5_2, x6_2, rfl, rfl, HA, HK2, HO_3, HB⟩ := hrel
              cases gk with
              | zero => exact absurd HA.out (by simp [tattleref03_Sort.l1])
              | succ k2 =>
                have H := HA.out
                clear HA
                simp only [tattleref03_Sort.l1] at H
                by_cases c7 : x6_2 < (l0.length : Int)
                · rw [if_pos c7] at H
                  have c7b0 : decide (x6_2 < (l0.length : Int)) = true := decide_eq_true c7
                  clear c7
                  by_cases c8 : 0 ≤ x6_2
                  · rw [if_pos c8] at H
                    have c8b0 : decide (0 ≤ x6_2) = true := decide_eq_true c8
                    clear c8
                    by_cases c9 : 0 ≤ x4_1
                    · rw [if_pos c9] at H
                      have c9b0 : decide (0 ≤ x4_1) = true := decide_eq_true c9
                      clear c9
                      by_cases c10 : x4_1 < (l0.length : Int)
                      · rw [if_pos c10] at H
                        have c10b0 : decide (x4_1 < (l0.length : Int)) = true := decide_eq_true c10
                        clear c10
                        replace H := Option.bind_eq_some_iff.mp H
                        obtain ⟨t423, A110, H⟩ := H
                        replace H : (if t423 = true then (tattleref03_Sort.l1 k2 l0 x3_1 x4_1 (wrap64 (x5_2 + 1)) (wrap64 (x6_2 + 1))) else (if (((rd_T52 l0 x6_2).f0) == ((rd_T52 l0 x4_1).f0) && (((rd_T52 l0 x6_2).f1) == ((rd_T52 l0 x4_1).f1) && (((rd_T52 l0 x6_2).f2) == ((rd_T52 l0 x4_1).f2) && (((rd_T52 l0 x6_2).f3) == ((rd_T52 l0 x4_1).f3))))) = true then (if x6_2 < x4_1 then (tattleref03_Sort.l1 k2 l0 x3_1 x4_1 (wrap64 (x5_2 + 1)) (wrap64 (x6_2 + 1))) else (tattleref03_Sort.l1 k2 l0 x3_1 x4_1 x5_2 (wrap64 (x6_2 + 1)))) else (tattleref03_Sort.l1 k2 l0 x3_1 x4_1 x5_2 (wrap64 (x6_2 + 1))))) = some r := H
                        have A11 := Aside0.mk A110
                        clear A110
                        by_cases c12 : t423 = true
                        · subst c12
                          have H1 : (tattleref03_Sort.l1 k2 l0 x3_1 x4_1 (wrap64 (x5_2 + 1)) (wrap64 (x6_2 + 1))) = some r := by rw [if_pos rfl] at H; exact H
                          clear H
                          have H := H1
                          clear H1
                          have H' := Aside0.mk H
                          clear H
                          try go_wp2
                          have n0_ := Aside0.mk (Kd.R_drew HO_3.out)
                          have n1_ := Aside0.mk (below_drew1 HB.out)
                          clear HO_3
                          clear HB
                          have HO_3 := n0_
                          have HB := n1_
                          clear n0_ n1_
                          have p421 : 0 ≤ (x6_2 : Int) := of_decide_eq_true (by first | (with_reducible assumption) | assumption)
                          have q421 : x6_2 < (l0.length : Int) := of_decide_eq_true (by first | (with_reducible assumption) | assumption)
                          obtain ⟨ad421, e421, hx421_0, hx421_1, hx421_2, hx421_3⟩ := at_T52 HR0.out x6_2 p421 q421
                          have hw421_3 := hx421_3
                          have hw421_2 := hx421_2
                          have hw421_1 := hx421_1
                          have hw421_0 := hx421_0
                          cases e421
                          replace hx421_0 := (HB.out.cell (World.block_lt_of_cell? w _ hx421_0)).trans hx421_0
                          replace hx421_1 := (HB.out.cell (World.block_lt_of_cell? w _ hx421_1)).trans hx421_1
                          replace hx421_2 := (HB.out.cell (World.block_lt_of_cell? w _ hx421_2)).trans hx421_2
                          replace hx421_3 := (HB.out.cell (World.block_lt_of_cell? w _ hx421_3)).trans hx421_3
                          replace p421 := eq_true p421
                          replace q421 := eq_true q421
                          have p422 : 0 ≤ (x4_1 : Int) := of_decide_eq_true (by first | (with_reducible assumption) | assumption)
                          have q422 : x4_1 < (l0.length : Int) := of_decide_eq_true (by first | (with_reducible assumption) | assumption)
                          obtain ⟨ad422, e422, hx422_0, hx422_1, hx422_2, hx422_3⟩ := at_T52 HR0.out x4_1 p422 q422
                          have hw422_3 := hx422_3
                          have hw422_2 := hx422_2
                          have hw422_1 := hx422_1
                          have hw422_0 := hx422_0
                          obtain rfl : ad421 = ad422 := (by injection e422)
                          replace hx422_0 := (HB.out.cell (World.block_lt_of_cell? w _ hx422_0)).trans hx422_0
                          replace hx422_1 := (HB.out.cell (World.block_lt_of_cell? w _ hx422_1)).trans hx422_1
                          replace hx422_2 := (HB.out.cell (World.block_lt_of_cell? w _ hx422_2)).trans hx422_2
                          replace hx422_3 := (HB.out.cell (World.block_lt_of_cell? w _ hx422_3)).trans hx422_3
                          replace p422 := eq_true p422
                          replace q422 := eq_true q422
                          refine start_ (n := 25) (S := fun w' => w'.cell? (ad421.add ((x6_2).toNat * 4)) = some (.int .i64 ((rd_T52 l0 x6_2).f0)) ∧ w'.cell? ⟨(ad421.add ((x6_2).toNat * 4)).block, (ad421.add ((x6_2).toNat * 4)).off + 1, none⟩ = some (.int .i64 ((rd_T52 l0 x6_2).f1)) ∧ w'.cell? ⟨(ad421.add ((x6_2).toNat * 4)).block, (ad421.add ((x6_2).toNat * 4)).off + 2, none⟩ = some (.int .i64 ((rd_T52 l0 x6_2).f2)) ∧ w'.cell? ⟨(ad421.add ((x6_2).toNat * 4)).block, (ad421.add ((x6_2).toNat * 4)).off + 3, none⟩ = some (.int .u64 ((rd_T52 l0 x6_2).f3)) ∧ w'.cell? (ad421.add ((x4_1).toNat * 4)) = some (.int .i64 ((rd_T52 l0 x4_1).f0)) ∧ w'.cell? ⟨(ad421.add ((x4_1).toNat * 4)).block, (ad421.add ((x4_1).toNat * 4)).off + 1, none⟩ = some (.int .i64 ((rd_T52 l0 x4_1).f1)) ∧ w'.cell? ⟨(ad421.add ((x4_1).toNat * 4)).block, (ad421.add ((x4_1).toNat * 4)).off + 2, none⟩ = some (.int .i64 ((rd_T52 l0 x4_1).f2)) ∧ w'.cell? ⟨(ad421.add ((x4_1).toNat * 4)).block, (ad421.add ((x4_1).toNat * 4)).off + 3, none⟩ = some (.int .u64 ((rd_T52 l0 x4_1).f3))) (ds := []) #[false, false, false, false, false, false, false, false, false, false, false, false, false, false, false, false, false, false, false, false, false, false, false, false, false] (by kernel_rfl) rfl rfl ⟨((HB.out.cell (World.block_lt_of_cell? w _ hw421_0)).trans hw421_0), ((HB.out.cell (World.block_lt_of_cell? w _ hw421_1)).trans hw421_1), ((HB.out.cell (World.block_lt_of_cell? w _ hw421_2)).trans hw421_2), ((HB.out.cell (World.block_lt_of_cell? w _ hw421_3)).trans hw421_3), ((HB.out.cell (World.block_lt_of_cell? w _ hw422_0)).trans hw422_0), ((HB.out.cell (World.block_lt_of_cell? w _ hw422_1)).trans hw422_1), ((HB.out.cell (World.block_lt_of_cell? w _ hw422_2)).trans hw422_2), ((HB.out.cell (World.block_lt_of_cell? w _ hw422_3)).trans hw422_3)⟩ (fun hHeld => ?_); refine with_tabW tattleref03_Sort.tab9 tattleref03_Sort.bits9 (fun HT_ HW_ => ?_)
                          generalize wr.drew = w13 at HO_3 HB hx421_0 hx421_1 hx421_2 hx421_3 hx422_0 hx422_1 hx422_2 hx422_3 hHeld ⊢
                          refine pure_ (i := 0) (N := some 22) (v := ?_) (a' := ?_) #[true, false, false, false, false, false, false, false, false, false, false, false, false, false, false, false, false, false, false, false, false, false, false, false, false] rfl rfl (any_of HT_.out (by kernel_rfl)) (fun _ _ _ h => h) (Or.inl ⟨by rfl, ?_⟩) ?_ ?_
                          rotate_left
                          · intro w'
                            go_simp
                            with_reducible rfl
                          rotate_left
                          · simp only [Act.put, List.setIfInBounds_toArray, List.set_cons_zero, List.set_cons_succ, i64_w, i32_w]
                            rfl
                          refine pure_ (i := 1) (N := some 23) (v := ?_) (a' := ?_) #[true, true, false, false, false, false, false, false, false, false, false, false, false, false, false, false, false, false, false, false, false, false, false, false, false] rfl rfl (any_of HT_.out (by kernel_rfl)) (fun _ _ _ h => h) (Or.inl ⟨by rfl, ?_⟩) ?_ ?_
                          rotate_left
                          · intro w'
                            go_simp
                            with_reducible rfl
                          rotate_left
                          · simp only [Act.put, List.setIfInBounds_toArray, List.set_cons_zero, List.set_cons_succ, i64_w, i32_w]
                            rfl
                          refine pure_ (i := 2) (N := some 24) (v := ?_) (a' := ?_) #[true, true, true, false, false, false, false, false, false, false, false, false, false, false, false, false, false, false, false, false, false, false, false, false, false] rfl rfl (any_of HT_.out (by kernel_rfl)) (fun _ _ _ h => h) (Or.inl ⟨by rfl, ?_⟩) ?_ ?_
                          rotate_left
                          · intro w'
                            go_simp
                            with_reducible rfl
                          rotate_left
                          · simp only [Act.put, List.setIfInBounds_toArray, List.set_cons_zero, List.set_cons_succ, i64_w, i32_w]
                            rfl
                          refine pure_ (i := 4) (N := some 26) (v := ?_) (a' := ?_) #[true, true, true, false, true, false, false, false, false, false, false, false, false, false, false, false, false, false, false, false, false, false, false, false, false] rfl rfl (any_of HT_.out (by kernel_rfl)) (fun _ _ _ h => h) (Or.inl ⟨by rfl, ?_⟩) ?_ ?_
                          rotate_left
                          · intro w'
                            go_simp
                            with_reducible rfl
                          rotate_left
                          · simp only [Act.put, List.setIfInBounds_toArray, List.set_cons_zero, List.set_cons_succ, i64_w, i32_w]
                            rfl
                          refine pure_ (i := 5) (N := some 27) (v := ?_) (a' := ?_) #[true, true, true, false, true, true, false, false, false, false, false, false, false, false, false, false, false, false, false, false, false, false, false, false, false] rfl rfl (any_of HT_.out (by kernel_rfl)) (fun _ _ _ h => h) (Or.inl ⟨by rfl, ?_⟩) ?_ ?_
                          rotate_left
                          · intro w'
                            go_simp
                            with_reducible rfl
                          rotate_left
                          · simp only [Act.put, List.setIfInBounds_toArray, List.set_cons_zero, List.set_cons_succ, i64_w, i32_w]
                            rfl
                          refine pure_ (i := 6) (N := some 28) (v := ?_) (a' := ?_) #[true, true, true, false, true, true, true, false, false, false, false, false, false, false, false, false, false, false, false, false, false, false, false, false, false] rfl rfl (any_of HT_.out (by kernel_rfl)) (fun _ _ _ h => h) (Or.inl ⟨by rfl, ?_⟩) ?_ ?_
                          rotate_left
                          · intro w'
                            go_simp
                            with_reducible rfl
                          rotate_left
                          · simp only [Act.put, List.setIfInBounds_toArray, List.set_cons_zero, List.set_cons_succ, i64_w, i32_w]
                            rfl
                          refine take_ (i := 3) (N := some 25) (v := ?_) (a' := ?_) #[true, true, true, true, true, true, true, false, false, false, false, false, false, false, false, false, false, false, false, false, false, false, false, false, false] rfl rfl (take_ofW HT_.out HW_.out (by kernel_rfl)) (fun _ _ _ h => h) (Or.inl ⟨by rfl, ?_⟩) hHeld ?_ ?_
                          rotate_left
                          · rintro w' ⟨s0, s1, s2, s3, s4, s5, s6, s7⟩
                            go_simp
                            with_reducible rfl
                          rotate_left
                          · simp only [Act.put, List.setIfInBounds_toArray, List.set_cons_zero, List.set_cons_succ, i64_w, i32_w]
                            rfl
                          refine take_ (i := 7) (N := some 29) (v := ?_) (a' := ?_) #[true, true, true, true, true, true, true, true, false, false, false, false, false, false, false, false, false, false, false, false, false, false, false, false, false] rfl rfl (take_ofW HT_.out HW_.out (by kernel_rfl)) (fun _ _ _ h => h) (Or.inl ⟨by rfl, ?_⟩) hHeld ?_ ?_
                          rotate_left
                          · rintro w' ⟨s0, s1, s2, s3, s4, s5, s6, s7⟩
                            go_simp
                            with_reducible rfl
                          rotate_left
                          · simp only [Act.put, List.setIfInBounds_toArray, List.set_cons_zero, List.set_cons_succ, i64_w, i32_w]
                            rfl
                          refine one_ (i := 8) (N := some 30) #[true, true, true, true, true, true, true, true, true, false, false, false, false, false, false, false, false, false, false, false, false, false, false, false, false] rfl rfl (one_of HT_.out (by kernel_rfl)) (by decide) (fun K hK => ?_)
                          refine goes_ Try.func34 (by kernel_rfl) rfl #[.agg #[.int .i64 ((rd_T52 l0 x6_2).f0), .int .i64 ((rd_T52 l0 x6_2).f1), .int .i64 ((rd_T52 l0 x6_2).f2), .int .u64 ((rd_T52 l0 x6_2).f3)], .agg #[.int .i64 ((rd_T52 l0 x4_1).f0), .int .i64 ((rd_T52 l0 x4_1).f1), .int .i64 ((rd_T52 l0 x4_1).f2), .int .u64 ((rd_T52 l0 x4_1).f3)]] (by rfl) rfl rfl (by (try simp only [List.map_toArray, List.map_cons, List.map_nil]); first | done | rfl | (simp only [List.length_drop, List.length_take]; rfl)) ?_
                          with_reducible refine (tattleref03_Less.calls ((rd_T52 l0 x6_2).f0) ((rd_T52 l0 x6_2).f1) ((rd_T52 l0 x6_2).f2) ((rd_T52 l0 x6_2).f3) ((rd_T52 l0 x4_1).f0) ((rd_T52 l0 x4_1).f1) ((rd_T52 l0 x4_1).f2) ((rd_T52 l0 x4_1).f3) true _ A11.out).mono ?_
                          rintro e w14 ⟨rfl, hb⟩
                          refine ⟨_, rfl, ?_⟩
                          have n0_ := Aside0.mk (Kd.R_below (by (with_reducible repeat (first | apply Kd.R_alloc | apply Kd.R_drewN | apply Kd.R_drew)); exact HO_3.out) hb)
                          have n1_ := Aside0.mk (below_step (by repeat (first | (with_reducible first | exact HB.out | apply below_alloc | apply pw_below_drewN | apply below_drew1) | exact HB.out)) hb)
                          clear HO_3
                          clear HB
                          have HO_3 := n0_
                          have HB := n1_
                          clear n0_ n1_
                          (try clear hb)
                          (try clear hb2)
                          (try clear hk)
                          (try clear hi)
                          refine hK.out _ _ ⟨((HB.out.cell (World.block_lt_of_cell? w _ hw421_0)).trans hw421_0), ((HB.out.cell (World.block_lt_of_cell? w _ hw421_1)).trans hw421_1), ((HB.out.cell (World.block_lt_of_cell? w _ hw421_2)).trans hw421_2), ((HB.out.cell (World.block_lt_of_cell? w _ hw421_3)).trans hw421_3), ((HB.out.cell (World.block_lt_of_cell? w _ hw422_0)).trans hw422_0), ((HB.out.cell (World.block_lt_of_cell? w _ hw422_1)).trans hw422_1), ((HB.out.cell (World.block_lt_of_cell? w _ hw422_2)).trans hw422_2), ((HB.out.cell (World.block_lt_of_cell? w _ hw422_3)).trans hw422_3)⟩ (fun hHeld => ?_)
                          clear hK K
                          refine norm_ (a' := ?_) ?_ ?_
                          rotate_left
                          · show Act.put _ (some 30) _ = _
                            simp only [Act.put, List.setIfInBounds_toArray, List.set_cons_zero, List.set_cons_succ, i64_w, i32_w]
                            rfl
                          refine pure_ (i := 9) (N := some 31) (v := ?_) (a' := ?_) #[true, true, true, true, true, true, true, true, true, true, false, false, false, false, false, false, false, false, false, false, false, false, false, false, false] rfl rfl (any_of HT_.out (by kernel_rfl)) (fun _ _ _ h => h) (Or.inl ⟨by rfl, ?_⟩) ?_ ?_
                          rotate_left
                          · intro w'
                            go_simp
                            with_reducible rfl
                          rotate_left
                          · simp only [Act.put, List.setIfInBounds_toArray, List.set_cons_zero, List.set_cons_succ, i64_w, i32_w]
                            rfl
                          refine pure_ (i := 10) (N := some 32) (v := undef) (a' := ?_) #[true, true, true, true, true, true, true, true, true, true, true, false, false, false, false, false, false, false, false, false, false, false, false, false, false] rfl rfl (any_of HT_.out (by kernel_rfl)) (fun _ _ _ h => h) (Or.inr ⟨by rfl, rfl⟩) ?_ ?_
                          rotate_left
                          · simp only [Act.put, List.setIfInBounds_toArray, List.set_cons_zero, List.set_cons_succ, i64_w, i32_w]
                            rfl
                          refine pure_ (i := 11) (N := some 33) (v := undef) (a' := ?_) #[true, true, true, true, true, true, true, true, true, true, true, true, false, false, false, false, false, false, false, false, false, false, false, false, false] rfl rfl (any_of HT_.out (by kernel_rfl)) (fun _ _ _ h => h) (Or.inr ⟨by rfl, rfl⟩) ?_ ?_
                          rotate_left
                          · simp only [Act.put, List.setIfInBounds_toArray, List.set_cons_zero, List.set_cons_succ, i64_w, i32_w]
                            rfl
                          refine pure_ (i := 12) (N := some 34) (v := undef) (a' := ?_) #[true, true, true, true, true, true, true, true, true, true, true, true, true, false, false, false, false, false, false, false, false, false, false, false, false] rfl rfl (any_of HT_.out (by kernel_rfl)) (fun _ _ _ h => h) (Or.inr ⟨by rfl, rfl⟩) ?_ ?_
                          rotate_left
                          · simp only [Act.put, List.setIfInBounds_toArray, List.set_cons_zero, List.set_cons_succ, i64_w, i32_w]
                            rfl
                          refine pure_ (i := 13) (N := some 35) (v := undef) (a' := ?_) #[true, true, true, true, true, true, true, true, true, true, true, true, true, true, false, false, false, false, false, false, false, false, false, false, false] rfl rfl (any_of HT_.out (by kernel_rfl)) (fun _ _ _ h => h) (Or.inr ⟨by rfl, rfl⟩) ?_ ?_
                          rotate_left
                          · simp only [Act.put, List.setIfInBounds_toArray, List.set_cons_zero, List.set_cons_succ, i64_w, i32_w]
                            rfl
                          refine pure_ (i := 14) (N := some 36) (v := undef) (a' := ?_) #[true, true, true, true, true, true, true, true, true, true, true, true, true, true, true, false, false, false, false, false, false, false, false, false, false] rfl rfl (any_of HT_.out (by kernel_rfl)) (fun _ _ _ h => h) (Or.inr ⟨by rfl, rfl⟩) ?_ ?_
                          rotate_left
                          · simp only [Act.put, List.setIfInBounds_toArray, List.set_cons_zero, List.set_cons_succ, i64_w, i32_w]
                            rfl
                          refine pure_ (i := 15) (N := some 37) (v := undef) (a' := ?_) #[true, true, true, true, true, true, true, true, true, true, true, true, true, true, true, true, false, false, false, false, false, false, false, false, false] rfl rfl (any_of HT_.out (by kernel_rfl)) (fun _ _ _ h => h) (Or.inr ⟨by rfl, rfl⟩) ?_ ?_
                          rotate_left
                          · simp only [Act.put, List.setIfInBounds_toArray, List.set_cons_zero, List.set_cons_succ, i64_w, i32_w]
                            rfl
                          refine pure_ (i := 16) (N := some 38) (v := undef) (a' := ?_) #[true, true, true, true, true, true, true, true, true, true, true, true, true, true, true, true, true, false, false, false, false, false, false, false, false] rfl rfl (any_of HT_.out (by kernel_rfl)) (fun _ _ _ h => h) (Or.inr ⟨by rfl, rfl⟩) ?_ ?_
                          rotate_left
                          · simp only [Act.put, List.setIfInBounds_toArray, List.set_cons_zero, List.set_cons_succ, i64_w, i32_w]
                            rfl
                          refine pure_ (i := 17) (N := some 39) (v := undef) (a' := ?_) #[true, true, true, true, true, true, true, true, true, true, true, true, true, true, true, true, true, true, false, false, false, false, false, false, false] rfl rfl (any_of HT_.out (by kernel_rfl)) (fun _ _ _ h => h) (Or.inr ⟨by rfl, rfl⟩) ?_ ?_
                          rotate_left
                          · simp only [Act.put, List.setIfInBounds_toArray, List.set_cons_zero, List.set_cons_succ, i64_w, i32_w]
                            rfl
                          refine pure_ (i := 18) (N := some 40) (v := undef) (a' := ?_) #[true, true, true, true, true, true, true, true, true, true, true, true, true, true, true, true, true, true, true, false, false, false, false, false, false] rfl rfl (any_of HT_.out (by kernel_rfl)) (fun _ _ _ h => h) (Or.inr ⟨by rfl, rfl⟩) ?_ ?_
                          rotate_left
                          · simp only [Act.put, List.setIfInBounds_toArray, List.set_cons_zero, List.set_cons_succ, i64_w, i32_w]
                            rfl
                          refine pure_ (i := 19) (N := some 41) (v := undef) (a' := ?_) #[true, true, true, true, true, true, true, true, true, true, true, true, true, true, true, true, true, true, true, true, false, false, false, false, false] rfl rfl (any_of HT_.out (by kernel_rfl)) (fun _ _ _ h => h) (Or.inr ⟨by rfl, rfl⟩) ?_ ?_
                          rotate_left
                          · simp only [Act.put, List.setIfInBounds_toArray, List.set_cons_zero, List.set_cons_succ, i64_w, i32_w]
                            rfl
                          refine pure_ (i := 20) (N := some 42) (v := undef) (a' := ?_) #[true, true, true, true, true, true, true, true, true, true, true, true, true, true, true, true, true, true, true, true, true, false, false, false, false] rfl rfl (any_of HT_.out (by kernel_rfl)) (fun _ _ _ h => h) (Or.inr ⟨by rfl, rfl⟩) ?_ ?_
                          rotate_left
                          · simp only [Act.put, List.setIfInBounds_toArray, List.set_cons_zero, List.set_cons_succ, i64_w, i32_w]
                            rfl
                          refine pure_ (i := 21) (N := some 43) (v := undef) (a' := ?_) #[true, true, true, true, true, true, true, true, true, true, true, true, true, true, true, true, true, true, true, true, true, true, false, false, false] rfl rfl (any_of HT_.out (by kernel_rfl)) (fun _ _ _ h => h) (Or.inr ⟨by rfl, rfl⟩) ?_ ?_
                          rotate_left
                          · simp only [Act.put, List.setIfInBounds_toArray, List.set_cons_zero, List.set_cons_succ, i64_w, i32_w]
                            rfl
                          refine pure_ (i := 22) (N := some 44) (v := undef) (a' := ?_) #[true, true, true, true, true, true, true, true, true, true, true, true, true, true, true, true, true, true, true, true, true, true, true, false, false] rfl rfl (any_of HT_.out (by kernel_rfl)) (fun _ _ _ h => h) (Or.inr ⟨by rfl, rfl⟩) ?_ ?_
                          rotate_left
                          · simp only [Act.put, List.setIfInBounds_toArray, List.set_cons_zero, List.set_cons_succ, i64_w, i32_w]
                            rfl
                          refine pure_ (i := 23) (N := some 45) (v := undef) (a' := ?_) #[true, true, true, true, true, true, true, true, true, true, true, true, true, true, true, true, true, true, true, true, true, true, true, true, false] rfl rfl (any_of HT_.out (by kernel_rfl)) (fun _ _ _ h => h) (Or.inr ⟨by rfl, rfl⟩) ?_ ?_
                          rotate_left
                          · simp only [Act.put, List.setIfInBounds_toArray, List.set_cons_zero, List.set_cons_succ, i64_w, i32_w]
                            rfl
                          refine pure_ (i := 24) (N := some 46) (v := ?_) (a' := ?_) #[true, true, true, true, true, true, true, true, true, true, true, true, true, true, true, true, true, true, true, true, true, true, true, true, true] rfl rfl (any_of HT_.out (by kernel_rfl)) (fun _ _ _ h => h) (Or.inl ⟨by rfl, ?_⟩) ?_ ?_
                          rotate_left
                          · intro w'
                            go_simp
                            with_reducible rfl
                          rotate_left
                          · simp only [Act.put, List.setIfInBounds_toArray, List.set_cons_zero, List.set_cons_succ, i64_w, i32_w]
                            rfl
                          refine done_ (done_of HT_.out (by kernel_rfl)) ?_
                          try go_wp2
                          go_roundg k2
                          case measure => have := HK1.out; have := HK2.out; omega
                          case rel => exact ⟨(wrap64 (x5_2 + 1)), (wrap64 (x6_2 + 1)), (by first | rfl | (simp; done) | (simp [*]; done)), (by first | rfl | (simp; done) | (simp [*]; done)), H', ⟨by have := HK1.out; have := HK2.out; omega⟩, ⟨by (with_reducible repeat (first | apply Kd.R_alloc | apply Kd.R_drewN | apply Kd.R_drew)); exact HO_3.out⟩, ⟨by repeat (first | (with_reducible first | exact HB.out | apply below_alloc | apply pw_below_drewN | apply below_drew1) | exact HB.out)⟩⟩
                        · replace c12 := Bool.eq_false_iff.mpr c12
                          subst c12
                          have H1 : (if (((rd_T52 l0 x6_2).f0) == ((rd_T52 l0 x4_1).f0) && (((rd_T52 l0 x6_2).f1) == ((rd_T52 l0 x4_1).f1) && (((rd_T52 l0 x6_2).f2) == ((rd_T52 l0 x4_1).f2) && (((rd_T52 l0 x6_2).f3) == ((rd_T52 l0 x4_1).f3))))) = true then (if x6_2 < x4_1 then (tattleref03_Sort.l1 k2 l0 x3_1 x4_1 (wrap64 (x5_2 + 1)) (wrap64 (x6_2 + 1))) else (tattleref03_Sort.l1 k2 l0 x3_1 x4_1 x5_2 (wrap64 (x6_2 + 1)))) else (tattleref03_Sort.l1 k2 l0 x3_1 x4_1 x5_2 (wrap64 (x6_2 + 1)))) = some r := by rw [if_neg (show ¬ (false = true) by decide)] at H; exact H
                          clear H
                          have H := H1
                          clear H1
                          by_cases c15 : (((rd_T52 l0 x6_2).f0) == ((rd_T52 l0 x4_1).f0) && (((rd_T52 l0 x6_2).f1) == ((rd_T52 l0 x4_1).f1) && (((rd_T52 l0 x6_2).f2) == ((rd_T52 l0 x4_1).f2) && (((rd_T52 l0 x6_2).f3) == ((rd_T52 l0 x4_1).f3))))) = true
                          · rw [if_pos c15] at H
                            have c15b0 : (((rd_T52 l0 x6_2).f0) == ((rd_T52 l0 x4_1).f0) && (((rd_T52 l0 x6_2).f1) == ((rd_T52 l0 x4_1).f1) && (((rd_T52 l0 x6_2).f2) == ((rd_T52 l0 x4_1).f2) && (((rd_T52 l0 x6_2).f3) == ((rd_T52 l0 x4_1).f3))))) = true := c15
                            (try (have c15b1 : decide (((rd_T52 l0 x6_2).f0) = ((rd_T52 l0 x4_1).f0) && (((rd_T52 l0 x6_2).f1) == ((rd_T52 l0 x4_1).f1) && (((rd_T52 l0 x6_2).f2) == ((rd_T52 l0 x4_1).f2) && (((rd_T52 l0 x6_2).f3) == ((rd_T52 l0 x4_1).f3))))) = true := by simpa using c15))
                            (try (have c15b2 : (((rd_T52 l0 x6_2).f0) == ((rd_T52 l0 x4_1).f0) && (((rd_T52 l0 x6_2).f1) == ((rd_T52 l0 x4_1).f1) && (((rd_T52 l0 x6_2).f2) == ((rd_T52 l0 x4_1).f2) && (((rd_T52 l0 x6_2).f3) == ((rd_T52 l0 x4_1).f3))))) = true := by simpa using c15))
                            clear c15
                            by_cases c16 : x6_2 < x4_1
                            · rw [if_pos c16] at H
                              have c16b0 : decide (x6_2 < x4_1) = true := decide_eq_true c16
                              clear c16
                              have H' := Aside0.mk H
                              clear H
                              try go_wp2
                              have n0_ := Aside0.mk (Kd.R_drew HO_3.out)
                              have n1_ := Aside0.mk (below_drew1 HB.out)
                              clear HO_3
                              clear HB
                              have HO_3 := n0_
                              have HB := n1_
                              clear n0_ n1_
                              have p421 : 0 ≤ (x6_2 : Int) := of_decide_eq_true (by first | (with_reducible assumption) | assumption)
                              have q421 : x6_2 < (l0.length : Int) := of_decide_eq_true (by first | (with_reducible assumption) | assumption)
                              obtain ⟨ad421, e421, hx421_0, hx421_1, hx421_2, hx421_3⟩ := at_T52 HR0.out x6_2 p421 q421
                              have hw421_3 := hx421_3
                              have hw421_2 := hx421_2
                              have hw421_1 := hx421_1
                              have hw421_0 := hx421_0
                              cases e421
                              replace hx421_0 := (HB.out.cell (World.block_lt_of_cell? w _ hx421_0)).trans hx421_0
                              replace hx421_1 := (HB.out.cell (World.block_lt_of_cell? w _ hx421_1)).trans hx421_1
                              replace hx421_2 := (HB.out.cell (World.block_lt_of_cell? w _ hx421_2)).trans hx421_2
                              replace hx421_3 := (HB.out.cell (World.block_lt_of_cell? w _ hx421_3)).trans hx421_3
                              replace p421 := eq_true p421
                              replace q421 := eq_true q421
                              have p422 : 0 ≤ (x4_1 : Int) := of_decide_eq_true (by first | (with_reducible assumption) | assumption)
                              have q422 : x4_1 < (l0.length : Int) := of_decide_eq_true (by first | (with_reducible assumption) | assumption)
                              obtain ⟨ad422, e422, hx422_0, hx422_1, hx422_2, hx422_3⟩ := at_T52 HR0.out x4_1 p422 q422
                              have hw422_3 := hx422_3
                              have hw422_2 := hx422_2
                              have hw422_1 := hx422_1
                              have hw422_0 := hx422_0
                              obtain rfl : ad421 = ad422 := (by injection e422)
                              replace hx422_0 := (HB.out.cell (World.block_lt_of_cell? w _ hx422_0)).trans hx422_0
                              replace hx422_1 := (HB.out.cell (World.block_lt_of_cell? w _ hx422_1)).trans hx422_1
                              replace hx422_2 := (HB.out.cell (World.block_lt_of_cell? w _ hx422_2)).trans hx422_2
                              replace hx422_3 := (HB.out.cell (World.block_lt_of_cell? w _ hx422_3)).trans hx422_3
                              replace p422 := eq_true p422
                              replace q422 := eq_true q422
                              have p424 : 0 ≤ (x6_2 : Int) := of_decide_eq_true (by first | (with_reducible assumption) | assumption)
                              have q424 : x6_2 < (l0.length : Int) := of_decide_eq_true (by first | (with_reducible assumption) | assumption)
                              obtain ⟨ad424, e424, hx424_0, hx424_1, hx424_2, hx424_3⟩ := at_T52 HR0.out x6_2 p424 q424
                              have hw424_3 := hx424_3
                              have hw424_2 := hx424_2
                              have hw424_1 := hx424_1
                              have hw424_0 := hx424_0
                              obtain rfl : ad421 = ad424 := (by injection e424)
                              replace hx424_0 := (HB.out.cell (World.block_lt_of_cell? w _ hx424_0)).trans hx424_0
                              replace hx424_1 := (HB.out.cell (World.block_lt_of_cell? w _ hx424_1)).trans hx424_1
                              replace hx424_2 := (HB.out.cell (World.block_lt_of_cell? w _ hx424_2)).trans hx424_2
                              replace hx424_3 := (HB.out.cell (World.block_lt_of_cell? w _ hx424_3)).trans hx424_3
                              replace p424 := eq_true p424
                              replace q424 := eq_true q424
                              have p425 : 0 ≤ (x4_1 : Int) := of_decide_eq_true (by first | (with_reducible assumption) | assumption)
                              have q425 : x4_1 < (l0.length : Int) := of_decide_eq_true (by first | (with_reducible assumption) | assumption)
                              obtain ⟨ad425, e425, hx425_0, hx425_1, hx425_2, hx425_3⟩ := at_T52 HR0.out x4_1 p425 q425
                              have hw425_3 := hx425_3
                              have hw425_2 := hx425_2
                              have hw425_1 := hx425_1
                              have hw425_0 := hx425_0
                              obtain rfl : ad421 = ad425 := (by injection e425)
                              replace hx425_0 := (HB.out.cell (World.block_lt_of_cell? w _ hx425_0)).trans hx425_0
                              replace hx425_1 := (HB.out.cell (World.block_lt_of_cell? w _ hx425_1)).trans hx425_1
                              replace hx425_2 := (HB.out.cell (World.block_lt_of_cell? w _ hx425_2)).trans hx425_2
                              replace hx425_3 := (HB.out.cell (World.block_lt_of_cell? w _ hx425_3)).trans hx425_3
                              replace p425 := eq_true p425
                              replace q425 := eq_true q425
                              refine start_ (n := 25) (S := fun w' => w'.cell? (ad421.add ((x6_2).toNat * 4)) = some (.int .i64 ((rd_T52 l0 x6_2).f0)) ∧ w'.cell? ⟨(ad421.add ((x6_2).toNat * 4)).block, (ad421.add ((x6_2).toNat * 4)).off + 1, none⟩ = some (.int .i64 ((rd_T52 l0 x6_2).f1)) ∧ w'.cell? ⟨(ad421.add ((x6_2).toNat * 4)).block, (ad421.add ((x6_2).toNat * 4)).off + 2, none⟩ = some (.int .i64 ((rd_T52 l0 x6_2).f2)) ∧ w'.cell? ⟨(ad421.add ((x6_2).toNat * 4)).block, (ad421.add ((x6_2).toNat * 4)).off + 3, none⟩ = some (.int .u64 ((rd_T52 l0 x6_2).f3)) ∧ w'.cell? (ad421.add ((x4_1).toNat * 4)) = some (.int .i64 ((rd_T52 l0 x4_1).f0)) ∧ w'.cell? ⟨(ad421.add ((x4_1).toNat * 4)).block, (ad421.add ((x4_1).toNat * 4)).off + 1, none⟩ = some (.int .i64 ((rd_T52 l0 x4_1).f1)) ∧ w'.cell? ⟨(ad421.add ((x4_1).toNat * 4)).block, (ad421.add ((x4_1).toNat * 4)).off + 2, none⟩ = some (.int .i64 ((rd_T52 l0 x4_1).f2)) ∧ w'.cell? ⟨(ad421.add ((x4_1).toNat * 4)).block, (ad421.add ((x4_1).toNat * 4)).off + 3, none⟩ = some (.int .u64 ((rd_T52 l0 x4_1).f3)) ∧ w'.cell? (ad421.add ((x6_2).toNat * 4)) = some (.int .i64 ((rd_T52 l0 x6_2).f0)) ∧ w'.cell? ⟨(ad421.add ((x6_2).toNat * 4)).block, (ad421.add ((x6_2).toNat * 4)).off + 1, none⟩ = some (.int .i64 ((rd_T52 l0 x6_2).f1)) ∧ w'.cell? ⟨(ad421.add ((x6_2).toNat * 4)).block, (ad421.add ((x6_2).toNat * 4)).off + 2, none⟩ = some (.int .i64 ((rd_T52 l0 x6_2).f2)) ∧ w'.cell? ⟨(ad421.add ((x6_2).toNat * 4)).block, (ad421.add ((x6_2).toNat * 4)).off + 3, none⟩ = some (.int .u64 ((rd_T52 l0 x6_2).f3)) ∧ w'.cell? (ad421.add ((x4_1).toNat * 4)) = some (.int .i64 ((rd_T52 l0 x4_1).f0)) ∧ w'.cell? ⟨(ad421.add ((x4_1).toNat * 4)).block, (ad421.add ((x4_1).toNat * 4)).off + 1, none⟩ = some (.int .i64 ((rd_T52 l0 x4_1).f1)) ∧ w'.cell? ⟨(ad421.add ((x4_1).toNat * 4)).block, (ad421.add ((x4_1).toNat * 4)).off + 2, none⟩ = some (.int .i64 ((rd_T52 l0 x4_1).f2)) ∧ w'.cell? ⟨(ad421.add ((x4_1).toNat * 4)).block, (ad421.add ((x4_1).toNat * 4)).off + 3, none⟩ = some (.int .u64 ((rd_T52 l0 x4_1).f3))) (ds := []) #[false, false, false, false, false, false, false, false, false, false, false, false, false, false, false, false, false, false, false, false, false, false, false, false, false] (by kernel_rfl) rfl rfl ⟨((HB.out.cell (World.block_lt_of_cell? w _ hw421_0)).trans hw421_0), ((HB.out.cell (World.block_lt_of_cell? w _ hw421_1)).trans hw421_1), ((HB.out.cell (World.block_lt_of_cell? w _ hw421_2)).trans hw421_2), ((HB.out.cell (World.block_lt_of_cell? w _ hw421_3)).trans hw421_3), ((HB.out.cell (World.block_lt_of_cell? w _ hw422_0)).trans hw422_0), ((HB.out.cell (World.block_lt_of_cell? w _ hw422_1)).trans hw422_1), ((HB.out.cell (World.block_lt_of_cell? w _ hw422_2)).trans hw422_2), ((HB.out.cell (World.block_lt_of_cell? w _ hw422_3)).trans hw422_3), ((HB.out.cell (World.block_lt_of_cell? w _ hw424_0)).trans hw424_0), ((HB.out.cell (World.block_lt_of_cell? w _ hw424_1)).trans hw424_1), ((HB.out.cell (World.block_lt_of_cell? w _ hw424_2)).trans hw424_2), ((HB.out.cell (World.block_lt_of_cell? w _ hw424_3)).trans hw424_3), ((HB.out.cell (World.block_lt_of_cell? w _ hw425_0)).trans hw425_0), ((HB.out.cell (World.block_lt_of_cell? w _ hw425_1)).trans hw425_1), ((HB.out.cell (World.block_lt_of_cell? w _ hw425_2)).trans hw425_2), ((HB.out.cell (World.block_lt_of_cell? w _ hw425_3)).trans hw425_3)⟩ (fun hHeld => ?_); refine with_tabW tattleref03_Sort.tab9 tattleref03_Sort.bits9 (fun HT_ HW_ => ?_)
                              generalize wr.drew = w17 at HO_3 HB hx421_0 hx421_1 hx421_2 hx421_3 hx422_0 hx422_1 hx422_2 hx422_3 hx424_0 hx424_1 hx424_2 hx424_3 hx425_0 hx425_1 hx425_2 hx425_3 hHeld ⊢
                              refine pure_ (i := 0) (N := some 22) (v := ?_) (a' := ?_) #[true, false, false, false, false, false, false, false, false, false, false, false, false, false, false, false, false, false, false, false, false, false, false, false, false] rfl rfl (any_of HT_.out (by kernel_rfl)) (fun _ _ _ h => h) (Or.inl ⟨by rfl, ?_⟩) ?_ ?_
                              rotate_left
                              · intro w'
                                go_simp
                                with_reducible rfl
                              rotate_left
                              · simp only [Act.put, List.setIfInBounds_toArray, List.set_cons_zero, List.set_cons_succ, i64_w, i32_w]
                                rfl
                              refine pure_ (i := 1) (N := some 23) (v := ?_) (a' := ?_) #[true, true, false, false, false, false, false, false, false, false, false, false, false, false, false, false, false, false, false, false, false, false, false, false, false] rfl rfl (any_of HT_.out (by kernel_rfl)) (fun _ _ _ h => h) (Or.inl ⟨by rfl, ?_⟩) ?_ ?_
                              rotate_left
                              · intro w'
                                go_simp
                                with_reducible rfl
                              rotate_left
                              · simp only [Act.put, List.setIfInBounds_toArray, List.set_cons_zero, List.set_cons_succ, i64_w, i32_w]
                                rfl
                              refine pure_ (i := 2) (N := some 24) (v := ?_) (a' := ?_) #[true, true, true, false, false, false, false, false, false, false, false, false, false, false, false, false, false, false, false, false, false, false, false, false, false] rfl rfl (any_of HT_.out (by kernel_rfl)) (fun _ _ _ h => h) (Or.inl ⟨by rfl, ?_⟩) ?_ ?_
                              rotate_left
                              · intro w'
                                go_simp
                                with_reducible rfl
                              rotate_left
                              · simp only [Act.put, List.setIfInBounds_toArray, List.set_cons_zero, List.set_cons_succ, i64_w, i32_w]
                                rfl
                              refine pure_ (i := 4) (N := some 26) (v := ?_) (a' := ?_) #[true, true, true, false, true, false, false, false, false, false, false, false, false, false, false, false, false, false, false, false, false, false, false, false, false] rfl rfl (any_of HT_.out (by kernel_rfl)) (fun _ _ _ h => h) (Or.inl ⟨by rfl, ?_⟩) ?_ ?_
                              rotate_left
                              · intro w'
                                go_simp
                                with_reducible rfl
                              rotate_left
                              · simp only [Act.put, List.setIfInBounds_toArray, List.set_cons_zero, List.set_cons_succ, i64_w, i32_w]
                                rfl
                              refine pure_ (i := 5) (N := some 27) (v := ?_) (a' := ?_) #[true, true, true, false, true, true, false, false, false, false, false, false, false, false, false, false, false, false, false, false, false, false, false, false, false] rfl rfl (any_of HT_.out (by kernel_rfl)) (fun _ _ _ h => h) (Or.inl ⟨by rfl, ?_⟩) ?_ ?_
                              rotate_left
                              · intro w'
                                go_simp
                                with_reducible rfl
                              rotate_left
                              · simp only [Act.put, List.setIfInBounds_toArray, List.set_cons_zero, List.set_cons_succ, i64_w, i32_w]
                                rfl
                              refine pure_ (i := 6) (N := some 28) (v := ?_) (a' := ?_) #[true, true, true, false, true, true, true, false, false, false, false, false, false, false, false, false, false, false, false, false, false, false, false, false, false] rfl rfl (any_of HT_.out (by kernel_rfl)) (fun _ _ _ h => h) (Or.inl ⟨by rfl, ?_⟩) ?_ ?_
                              rotate_left
                              · intro w'
                                go_simp
                                with_reducible rfl
                              rotate_left
                              · simp only [Act.put, List.setIfInBounds_toArray, List.set_cons_zero, List.set_cons_succ, i64_w, i32_w]
                                rfl
                              refine take_ (i := 3) (N := some 25) (v := ?_) (a' := ?_) #[true, true, true, true, true, true, true, false, false, false, false, false, false, false, false, false, false, false, false, false, false, false, false, false, false] rfl rfl (take_ofW HT_.out HW_.out (by kernel_rfl)) (fun _ _ _ h => h) (Or.inl ⟨by rfl, ?_⟩) hHeld ?_ ?_
                              rotate_left
                              · rintro w' ⟨s0, s1, s2, s3, s4, s5, s6, s7, s8, s9, s10, s11, s12, s13, s14, s15⟩
                                go_simp
                                with_reducible rfl
                              rotate_left
                              · simp only [Act.put, List.setIfInBounds_toArray, List.set_cons_zero, List.set_cons_succ, i64_w, i32_w]
                                rfl
                              refine take_ (i := 7) (N := some 29) (v := ?_) (a' := ?_) #[true, true, true, true, true, true, true, true, false, false, false, false, false, false, false, false, false, false, false, false, false, false, false, false, false] rfl rfl (take_ofW HT_.out HW_.out (by kernel_rfl)) (fun _ _ _ h => h) (Or.inl ⟨by rfl, ?_⟩) hHeld ?_ ?_
                              rotate_left
                              · rintro w' ⟨s0, s1, s2, s3, s4, s5, s6, s7, s8, s9, s10, s11, s12, s13, s14, s15⟩
                                go_simp
                                with_reducible rfl
                              rotate_left
                              · simp only [Act.put, List.setIfInBounds_toArray, List.set_cons_zero, List.set_cons_succ, i64_w, i32_w]
                                rfl
                              refine one_ (i := 8) (N := some 30) #[true, true, true, true, true, true, true, true, true, false, false, false, false, false, false, false, false, false, false, false, false, false, false, false, false] rfl rfl (one_of HT_.out (by kernel_rfl)) (by decide) (fun K hK => ?_)
                              refine goes_ Try.func34 (by kernel_rfl) rfl #[.agg #[.int .i64 ((rd_T52 l0 x6_2).f0), .int .i64 ((rd_T52 l0 x6_2).f1), .int .i64 ((rd_T52 l0 x6_2).f2), .int .u64 ((rd_T52 l0 x6_2).f3)], .agg #[.int .i64 ((rd_T52 l0 x4_1).f0), .int .i64 ((rd_T52 l0 x4_1).f1), .int .i64 ((rd_T52 l0 x4_1).f2), .int .u64 ((rd_T52 l0 x4_1).f3)]] (by rfl) rfl rfl (by (try simp only [List.map_toArray, List.map_cons, List.map_nil]); first | done | rfl | (simp only [List.length_drop, List.length_take]; rfl)) ?_
                              with_reducible refine (tattleref03_Less.calls ((rd_T52 l0 x6_2).f0) ((rd_T52 l0 x6_2).f1) ((rd_T52 l0 x6_2).f2) ((rd_T52 l0 x6_2).f3) ((rd_T52 l0 x4_1).f0) ((rd_T52 l0 x4_1).f1) ((rd_T52 l0 x4_1).f2) ((rd_T52 l0 x4_1).f3) false _ A11.out).mono ?_
                              rintro e w18 ⟨rfl, hb⟩
                              refine ⟨_, rfl, ?_⟩
                              have n0_ := Aside0.mk (Kd.R_below (by (with_reducible repeat (first | apply Kd.R_alloc | apply Kd.R_drewN | apply Kd.R_drew)); exact HO_3.out) hb)
                              have n1_ := Aside0.mk (below_step (by repeat (first | (with_reducible first | exact HB.out | apply below_alloc | apply pw_below_drewN | apply below_drew1) | exact HB.out)) hb)
                              clear HO_3
                              clear HB
                              have HO_3 := n0_
                              have HB := n1_
                              clear n0_ n1_
                              (try clear hb)
                              (try clear hb2)
                              (try clear hk)
                              (try clear hi)
                              refine hK.out _ _ ⟨((HB.out.cell (World.block_lt_of_cell? w _ hw421_0)).trans hw421_0), ((HB.out.cell (World.block_lt_of_cell? w _ hw421_1)).trans hw421_1), ((HB.out.cell (World.block_lt_of_cell? w _ hw421_2)).trans hw421_2), ((HB.out.cell (World.block_lt_of_cell? w _ hw421_3)).trans hw421_3), ((HB.out.cell (World.block_lt_of_cell? w _ hw422_0)).trans hw422_0), ((HB.out.cell (World.block_lt_of_cell? w _ hw422_1)).trans hw422_1), ((HB.out.cell (World.block_lt_of_cell? w _ hw422_2)).trans hw422_2), ((HB.out.cell (World.block_lt_of_cell? w _ hw422_3)).trans hw422_3), ((HB.out.cell (World.block_lt_of_cell? w _ hw424_0)).trans hw424_0), ((HB.out.cell (World.block_lt_of_cell? w _ hw424_1)).trans hw424_1), ((HB.out.cell (World.block_lt_of_cell? w _ hw424_2)).trans hw424_2), ((HB.out.cell (World.block_lt_of_cell? w _ hw424_3)).trans hw424_3), ((HB.out.cell (World.block_lt_of_cell? w _ hw425_0)).trans hw425_0), ((HB.out.cell (World.block_lt_of_cell? w _ hw425_1)).trans hw425_1), ((HB.out.cell (World.block_lt_of_cell? w _ hw425_2)).trans hw425_2), ((HB.out.cell (World.block_lt_of_cell? w _ hw425_3)).trans hw425_3)⟩ (fun hHeld => ?_)
                              clear hK K
                              refine norm_ (a' := ?_) ?_ ?_
                              rotate_left
                              · show Act.put _ (some 30) _ = _
                                simp only [Act.put, List.setIfInBounds_toArray, List.set_cons_zero, List.set_cons_succ, i64_w, i32_w]
                                rfl
                              refine pure_ (i := 9) (N := some 31) (v := ?_) (a' := ?_) #[true, true, true, true, true, true, true, true, true, true, false, false, false, false, false, false, false, false, false, false, false, false, false, false, false] rfl rfl (any_of HT_.out (by kernel_rfl)) (fun _ _ _ h => h) (Or.inl ⟨by rfl, ?_⟩) ?_ ?_
                              rotate_left
                              · intro w'
                                go_simp
                                with_reducible rfl
                              rotate_left
                              · simp only [Act.put, List.setIfInBounds_toArray, List.set_cons_zero, List.set_cons_succ, i64_w, i32_w]
                                rfl
                              refine pure_ (i := 10) (N := some 32) (v := ?_) (a' := ?_) #[true, true, true, true, true, true, true, true, true, true, true, false, false, false, false, false, false, false, false, false, false, false, false, false, false] rfl rfl (any_of HT_.out (by kernel_rfl)) (fun _ _ _ h => h) (Or.inl ⟨by rfl, ?_⟩) ?_ ?_
                              rotate_left
                              · intro w'
                                go_simp
                                with_reducible rfl
                              rotate_left
                              · simp only [Act.put, List.setIfInBounds_toArray, List.set_cons_zero, List.set_cons_succ, i64_w, i32_w]
                                rfl
                              refine pure_ (i := 11) (N := some 33) (v := ?_) (a' := ?_) #[true, true, true, true, true, true, true, true, true, true, true, true, false, false, false, false, false, false, false, false, false, false, false, false, false] rfl rfl (any_of HT_.out (by kernel_rfl)) (fun _ _ _ h => h) (Or.inl ⟨by rfl, ?_⟩) ?_ ?_
                              rotate_left
                              · intro w'
                                go_simp
                                with_reducible rfl
                              rotate_left
                              · simp only [Act.put, List.setIfInBounds_toArray, List.set_cons_zero, List.set_cons_succ, i64_w, i32_w]
                                rfl
                              refine pure_ (i := 12) (N := some 34) (v := ?_) (a' := ?_) #[true, true, true, true, true, true, true, true, true, true, true, true, true, false, false, false, false, false, false, false, false, false, false, false, false] rfl rfl (any_of HT_.out (by kernel_rfl)) (fun _ _ _ h => h) (Or.inl ⟨by rfl, ?_⟩) ?_ ?_
                              rotate_left
                              · intro w'
                                go_simp
                                with_reducible rfl
                              rotate_left
                              · simp only [Act.put, List.setIfInBounds_toArray, List.set_cons_zero, List.set_cons_succ, i64_w, i32_w]
                                rfl
                              refine pure_ (i := 14) (N := some 36) (v := ?_) (a' := ?_) #[true, true, true, true, true, true, true, true, true, true, true, true, true, false, true, false, false, false, false, false, false, false, false, false, false] rfl rfl (any_of HT_.out (by kernel_rfl)) (fun _ _ _ h => h) (Or.inl ⟨by rfl, ?_⟩) ?_ ?_
                              rotate_left
                              · intro w'
                                go_simp
                                with_reducible rfl
                              rotate_left
                              · simp only [Act.put, List.setIfInBounds_toArray, List.set_cons_zero, List.set_cons_succ, i64_w, i32_w]
                                rfl
                              refine pure_ (i := 15) (N := some 37) (v := ?_) (a' := ?_) #[true, true, true, true, true, true, true, true, true, true, true, true, true, false, true, true, false, false, false, false, false, false, false, false, false] rfl rfl (any_of HT_.out (by kernel_rfl)) (fun _ _ _ h => h) (Or.inl ⟨by rfl, ?_⟩) ?_ ?_
                              rotate_left
                              · intro w'
                                go_simp
                                with_reducible rfl
                              rotate_left
                              · simp only [Act.put, List.setIfInBounds_toArray, List.set_cons_zero, List.set_cons_succ, i64_w, i32_w]
                                rfl
                              refine pure_ (i := 16) (N := some 38) (v := ?_) (a' := ?_) #[true, true, true, true, true, true, true, true, true, true, true, true, true, false, true, true, true, false, false, false, false, false, false, false, false] rfl rfl (any_of HT_.out (by kernel_rfl)) (fun _ _ _ h => h) (Or.inl ⟨by rfl, ?_⟩) ?_ ?_
                              rotate_left
                              · intro w'
                                go_simp
                                with_reducible rfl
                              rotate_left
                              · simp only [Act.put, List.setIfInBounds_toArray, List.set_cons_zero, List.set_cons_succ, i64_w, i32_w]
                                rfl
                              refine take_ (i := 13) (N := some 35) (v := ?_) (a' := ?_) #[true, true, true, true, true, true, true, true, true, true, true, true, true, true, true, true, true, false, false, false, false, false, false, false, false] rfl rfl (take_ofW HT_.out HW_.out (by kernel_rfl)) (fun _ _ _ h => h) (Or.inl ⟨by rfl, ?_⟩) hHeld ?_ ?_
                              rotate_left
                              · rintro w' ⟨s0, s1, s2, s3, s4, s5, s6, s7, s8, s9, s10, s11, s12, s13, s14, s15⟩
                                go_simp
                                with_reducible rfl
                              rotate_left
                              · simp only [Act.put, List.setIfInBounds_toArray, List.set_cons_zero, List.set_cons_succ, i64_w, i32_w]
                                rfl
                              refine take_ (i := 17) (N := some 39) (v := ?_) (a' := ?_) #[true, true, true, true, true, true, true, true, true, true, true, true, true, true, true, true, true, true, false, false, false, false, false, false, false] rfl rfl (take_ofW HT_.out HW_.out (by kernel_rfl)) (fun _ _ _ h => h) (Or.inl ⟨by rfl, ?_⟩) hHeld ?_ ?_
                              rotate_left
                              · rintro w' ⟨s0, s1, s2, s3, s4, s5, s6, s7, s8, s9, s10, s11, s12, s13, s14, s15⟩
                                go_simp
                                with_reducible rfl
                              rotate_left
                              · simp only [Act.put, List.setIfInBounds_toArray, List.set_cons_zero, List.set_cons_succ, i64_w, i32_w]
                                rfl
                              refine pure_ (i := 18) (N := some 40) (v := ?_) (a' := ?_) #[true, true, true, true, true, true, true, true, true, true, true, true, true, true, true, true, true, true, true, false, false, false, false, false, false] rfl rfl (any_of HT_.out (by kernel_rfl)) (fun _ _ _ h => h) (Or.inl ⟨by rfl, ?_⟩) ?_ ?_
                              rotate_left
                              · intro w'
                                go_simp
                                with_reducible rfl
                              rotate_left
                              · simp only [Act.put, List.setIfInBounds_toArray, List.set_cons_zero, List.set_cons_succ, i64_w, i32_w]
                                rfl
                              refine pure_ (i := 19) (N := some 41) (v := ?_) (a' := ?_) #[true, true, true, true, true, true, true, true, true, true, true, true, true, true, true, true, true, true, true, true, false, false, false, false, false] rfl rfl (any_of HT_.out (by kernel_rfl)) (fun _ _ _ h => h) (Or.inl ⟨by rfl, ?_⟩) ?_ ?_
                              rotate_left
                              · intro w'
                                go_simp
                                with_reducible rfl
                              rotate_left
                              · simp only [Act.put, List.setIfInBounds_toArray, List.set_cons_zero, List.set_cons_succ, i64_w, i32_w]
                                rfl
                              refine pure_ (i := 20) (N := some 42) (v := ?_) (a' := ?_) #[true, true, true, true, true, true, true, true, true, true, true, true, true, true, true, true, true, true, true, true, true, false, false, false, false] rfl rfl (any_of HT_.out (by kernel_rfl)) (fun _ _ _ h => h) (Or.inl ⟨by rfl, ?_⟩) ?_ ?_
                              rotate_left
                              · intro w'
                                go_simp
                                with_reducible rfl
                              rotate_left
                              · simp only [Act.put, List.setIfInBounds_toArray, List.set_cons_zero, List.set_cons_succ, i64_w, i32_w]
                                rfl
                              refine pure_ (i := 21) (N := some 43) (v := ?_) (a' := ?_) #[true, true, true, true, true, true, true, true, true, true, true, true, true, true, true, true, true, true, true, true, true, true, false, false, false] rfl rfl (any_of HT_.out (by kernel_rfl)) (fun _ _ _ h => h) (Or.inl ⟨by rfl, ?_⟩) ?_ ?_
                              rotate_left
                              · intro w'
                                go_simp
                                with_reducible rfl
                              rotate_left
                              · simp only [Act.put, List.setIfInBounds_toArray, List.set_cons_zero, List.set_cons_succ, i64_w, i32_w]
                                rfl
                              refine pure_ (i := 22) (N := some 44) (v := ?_) (a' := ?_) #[true, true, true, true, true, true, true, true, true, true, true, true, true, true, true, true, true, true, true, true, true, true, true, false, false] rfl rfl (any_of HT_.out (by kernel_rfl)) (fun _ _ _ h => h) (Or.inl ⟨by rfl, ?_⟩) ?_ ?_
                              rotate_left
                              · intro w'
                                go_simp
                                with_reducible rfl
                              rotate_left
                              · simp only [Act.put, List.setIfInBounds_toArray, List.set_cons_zero, List.set_cons_succ, i64_w, i32_w]
                                rfl
                              refine pure_ (i := 23) (N := some 45) (v := ?_) (a' := ?_) #[true, true, true, true, true, true, true, true, true, true, true, true, true, true, true, true, true, true, true, true, true, true, true, true, false] rfl rfl (any_of HT_.out (by kernel_rfl)) (fun _ _ _ h => h) (Or.inl ⟨by rfl, ?_⟩) ?_ ?_
                              rotate_left
                              · intro w'
                                go_simp
                                with_reducible rfl
                              rotate_left
                              · simp only [Act.put, List.setIfInBounds_toArray, List.set_cons_zero, List.set_cons_succ, i64_w, i32_w]
                                rfl
                              refine pure_ (i := 24) (N := some 46) (v := ?_) (a' := ?_) #[true, true, true, true, true, true, true, true, true, true, true, true, true, true, true, true, true, true, true, true, true, true, true, true, true] rfl rfl (any_of HT_.out (by kernel_rfl)) (fun _ _ _ h => h) (Or.inl ⟨by rfl, ?_⟩) ?_ ?_
                              rotate_left
                              · intro w'
                                go_simp
                                with_reducible rfl
                              rotate_left
                              · simp only [Act.put, List.setIfInBounds_toArray, List.set_cons_zero, List.set_cons_succ, i64_w, i32_w]
                                rfl
                              refine done_ (done_of HT_.out (by kernel_rfl)) ?_
                              try go_wp2
                              go_roundg k2
                              case measure => have := HK1.out; have := HK2.out; omega
                              case rel => exact ⟨(wrap64 (x5_2 + 1)), (wrap64 (x6_2 + 1)), (by first | rfl | (simp; done) | (simp [*]; done)), (by first | rfl | (simp; done) | (simp [*]; done)), H', ⟨by have := HK1.out; have := HK2.out; omega⟩, ⟨by (with_reducible repeat (first | apply Kd.R_alloc | apply Kd.R_drewN | apply Kd.R_drew)); exact HO_3.out⟩, ⟨by repeat (first | (with_reducible first | exact HB.out | apply below_alloc | apply pw_below_drewN | apply below_drew1) | exact HB.out)⟩⟩
                            · rw [if_neg c16] at H
                              have c16b0 : decide (x6_2 < x4_1) = false := decide_eq_false c16
                              clear c16
                              have H' := Aside0.mk H
                              clear H
                              try go_wp2
                              have n0_ := Aside0.mk (Kd.R_drew HO_3.out)
                              have n1_ := Aside0.mk (below_drew1 HB.out)
                              clear HO_3
                              clear HB
                              have HO_3 := n0_
                              have HB := n1_
                              clear n0_ n1_
                              have p421 : 0 ≤ (x6_2 : Int) := of_decide_eq_true (by first | (with_reducible assumption) | assumption)
                              have q421 : x6_2 < (l0.length : Int) := of_decide_eq_true (by first | (with_reducible assumption) | assumption)
                              obtain ⟨ad421, e421, hx421_0, hx421_1, hx421_2, hx421_3⟩ := at_T52 HR0.out x6_2 p421 q421
                              have hw421_3 := hx421_3
                              have hw421_2 := hx421_2
                              have hw421_1 := hx421_1
                              have hw421_0 := hx421_0
                              cases e421
                              replace hx421_0 := (HB.out.cell (World.block_lt_of_cell? w _ hx421_0)).trans hx421_0
                              replace hx421_1 := (HB.out.cell (World.block_lt_of_cell? w _ hx421_1)).trans hx421_1
                              replace hx421_2 := (HB.out.cell (World.block_lt_of_cell? w _ hx421_2)).trans hx421_2
                              replace hx421_3 := (HB.out.cell (World.block_lt_of_cell? w _ hx421_3)).trans hx421_3
                              replace p421 := eq_true p421
                              replace q421 := eq_true q421
                              have p422 : 0 ≤ (x4_1 : Int) := of_decide_eq_true (by first | (with_reducible assumption) | assumption)
                              have q422 : x4_1 < (l0.length : Int) := of_decide_eq_true (by first | (with_reducible assumption) | assumption)
                              obtain ⟨ad422, e422, hx422_0, hx422_1, hx422_2, hx422_3⟩ := at_T52 HR0.out x4_1 p422 q422
                              have hw422_3 := hx422_3
                              have hw422_2 := hx422_2
                              have hw422_1 := hx422_1
                              have hw422_0 := hx422_0
                              obtain rfl : ad421 = ad422 := (by injection e422)
                              replace hx422_0 := (HB.out.cell (World.block_lt_of_cell? w _ hx422_0)).trans hx422_0
                              replace hx422_1 := (HB.out.cell (World.block_lt_of_cell? w _ hx422_1)).trans hx422_1
                              replace hx422_2 := (HB.out.cell (World.block_lt_of_cell? w _ hx422_2)).trans hx422_2
                              replace hx422_3 := (HB.out.cell (World.block_lt_of_cell? w _ hx422_3)).trans hx422_3
                              replace p422 := eq_true p422
                              replace q422 := eq_true q422
                              have p424 : 0 ≤ (x6_2 : Int) := of_decide_eq_true (by first | (with_reducible assumption) | assumption)
                              have q424 : x6_2 < (l0.length : Int) := of_decide_eq_true (by first | (with_reducible assumption) | assumption)
                              obtain ⟨ad424, e424, hx424_0, hx424_1, hx424_2, hx424_3⟩ := at_T52 HR0.out x6_2 p424 q424
                              have hw424_3 := hx424_3
                              have hw424_2 := hx424_2
                              have hw424_1 := hx424_1
                              have hw424_0 := hx424_0
                              obtain rfl : ad421 = ad424 := (by injection e424)
                              replace hx424_0 := (HB.out.cell (World.block_lt_of_cell? w _ hx424_0)).trans hx424_0
                              replace hx424_1 := (HB.out.cell (World.block_lt_of_cell? w _ hx424_1)).trans hx424_1
                              replace hx424_2 := (HB.out.cell (World.block_lt_of_cell? w _ hx424_2)).trans hx424_2
                              replace hx424_3 := (HB.out.cell (World.block_lt_of_cell? w _ hx424_3)).trans hx424_3
                              replace p424 := eq_true p424
                              replace q424 := eq_true q424
                              have p425 : 0 ≤ (x4_1 : Int) := of_decide_eq_true (by first | (with_reducible assumption) | assumption)
                              have q425 : x4_1 < (l0.length : Int) := of_decide_eq_true (by first | (with_reducible assumption) | assumption)
                              obtain ⟨ad425, e425, hx425_0, hx425_1, hx425_2, hx425_3⟩ := at_T52 HR0.out x4_1 p425 q425
                              have hw425_3 := hx425_3
                              have hw425_2 := hx425_2
                              have hw425_1 := hx425_1
                              have hw425_0 := hx425_0
                              obtain rfl : ad421 = ad425 := (by injection e425)
                              replace hx425_0 := (HB.out.cell (World.block_lt_of_cell? w _ hx425_0)).trans hx425_0
                              replace hx425_1 := (HB.out.cell (World.block_lt_of_cell? w _ hx425_1)).trans hx425_1
                              replace hx425_2 := (HB.out.cell (World.block_lt_of_cell? w _ hx425_2)).trans hx425_2
                              replace hx425_3 := (HB.out.cell (World.block_lt_of_cell? w _ hx425_3)).trans hx425_3
                              replace p425 := eq_true p425
                              replace q425 := eq_true q425
                              refine start_ (n := 25) (S := fun w' => w'.cell? (ad421.add ((x6_2).toNat * 4)) = some (.int .i64 ((rd_T52 l0 x6_2).f0)) ∧ w'.cell? ⟨(ad421.add ((x6_2).toNat * 4)).block, (ad421.add ((x6_2).toNat * 4)).off + 1, none⟩ = some (.int .i64 ((rd_T52 l0 x6_2).f1)) ∧ w'.cell? ⟨(ad421.add ((x6_2).toNat * 4)).block, (ad421.add ((x6_2).toNat * 4)).off + 2, none⟩ = some (.int .i64 ((rd_T52 l0 x6_2).f2)) ∧ w'.cell? ⟨(ad421.add ((x6_2).toNat * 4)).block, (ad421.add ((x6_2).toNat * 4)).off + 3, none⟩ = some (.int .u64 ((rd_T52 l0 x6_2).f3)) ∧ w'.cell? (ad421.add ((x4_1).toNat * 4)) = some (.int .i64 ((rd_T52 l0 x4_1).f0)) ∧ w'.cell? ⟨(ad421.add ((x4_1).toNat * 4)).block, (ad421.add ((x4_1).toNat * 4)).off + 1, none⟩ = some (.int .i64 ((rd_T52 l0 x4_1).f1)) ∧ w'.cell? ⟨(ad421.add ((x4_1).toNat * 4)).block, (ad421.add ((x4_1).toNat * 4)).off + 2, none⟩ = some (.int .i64 ((rd_T52 l0 x4_1).f2)) ∧ w'.cell? ⟨(ad421.add ((x4_1).toNat * 4)).block, (ad421.add ((x4_1).toNat * 4)).off + 3, none⟩ = some (.int .u64 ((rd_T52 l0 x4_1).f3)) ∧ w'.cell? (ad421.add ((x6_2).toNat * 4)) = some (.int .i64 ((rd_T52 l0 x6_2).f0)) ∧ w'.cell? ⟨(ad421.add ((x6_2).toNat * 4)).block, (ad421.add ((x6_2).toNat * 4)).off + 1, none⟩ = some (.int .i64 ((rd_T52 l0 x6_2).f1)) ∧ w'.cell? ⟨(ad421.add ((x6_2).toNat * 4)).block, (ad421.add ((x6_2).toNat * 4)).off + 2, none⟩ = some (.int .i64 ((rd_T52 l0 x6_2).f2)) ∧ w'.cell? ⟨(ad421.add ((x6_2).toNat * 4)).block, (ad421.add ((x6_2).toNat * 4)).off + 3, none⟩ = some (.int .u64 ((rd_T52 l0 x6_2).f3)) ∧ w'.cell? (ad421.add ((x4_1).toNat * 4)) = some (.int .i64 ((rd_T52 l0 x4_1).f0)) ∧ w'.cell? ⟨(ad421.add ((x4_1).toNat * 4)).block, (ad421.add ((x4_1).toNat * 4)).off + 1, none⟩ = some (.int .i64 ((rd_T52 l0 x4_1).f1)) ∧ w'.cell? ⟨(ad421.add ((x4_1).toNat * 4)).block, (ad421.add ((x4_1).toNat * 4)).off + 2, none⟩ = some (.int .i64 ((rd_T52 l0 x4_1).f2)) ∧ w'.cell? ⟨(ad421.add ((x4_1).toNat * 4)).block, (ad421.add ((x4_1).toNat * 4)).off + 3, none⟩ = some (.int .u64 ((rd_T52 l0 x4_1).f3))) (ds := []) #[false, false, false, false, false, false, false, false, false, false, false, false, false, false, false, false, false, false, false, false, false, false, false, false, false] (by kernel_rfl) rfl rfl ⟨((HB.out.cell (World.block_lt_of_cell? w _ hw421_0)).trans hw421_0), ((HB.out.cell (World.block_lt_of_cell? w _ hw421_1)).trans hw421_1), ((HB.out.cell (World.block_lt_of_cell? w _ hw421_2)).trans hw421_2), ((HB.out.cell (World.block_lt_of_cell? w _ hw421_3)).trans hw421_3), ((HB.out.cell (World.block_lt_of_cell? w _ hw422_0)).trans hw422_0), ((HB.out.cell (World.block_lt_of_cell? w _ hw422_1)).trans hw422_1), ((HB.out.cell (World.block_lt_of_cell? w _ hw422_2)).trans hw422_2), ((HB.out.cell (World.block_lt_of_cell? w _ hw422_3)).trans hw422_3), ((HB.out.cell (World.block_lt_of_cell? w _ hw424_0)).trans hw424_0), ((HB.out.cell (World.block_lt_of_cell? w _ hw424_1)).trans hw424_1), ((HB.out.cell (World.block_lt_of_cell? w _ hw424_2)).trans hw424_2), ((HB.out.cell (World.block_lt_of_cell? w _ hw424_3)).trans hw424_3), ((HB.out.cell (World.block_lt_of_cell? w _ hw425_0)).trans hw425_0), ((HB.out.cell (World.block_lt_of_cell? w _ hw425_1)).trans hw425_1), ((HB.out.cell (World.block_lt_of_cell? w _ hw425_2)).trans hw425_2), ((HB.out.cell (World.block_lt_of_cell? w _ hw425_3)).trans hw425_3)⟩ (fun hHeld => ?_); refine with_tabW tattleref03_Sort.tab9 tattleref03_Sort.bits9 (fun HT_ HW_ => ?_)
                              generalize wr.drew = w19 at HO_3 HB hx421_0 hx421_1 hx421_2 hx421_3 hx422_0 hx422_1 hx422_2 hx422_3 hx424_0 hx424_1 hx424_2 hx424_3 hx425_0 hx425_1 hx425_2 hx425_3 hHeld ⊢
                              refine pure_ (i := 0) (N := some 22) (v := ?_) (a' := ?_) #[true, false, false, false, false, false, false, false, false, false, false, false, false, false, false, false, false, false, false, false, false, false, false, false, false] rfl rfl (any_of HT_.out (by kernel_rfl)) (fun _ _ _ h => h) (Or.inl ⟨by rfl, ?_⟩) ?_ ?_
                              rotate_left
                              · intro w'
                                go_simp
                                with_reducible rfl
                              rotate_left
                              · simp only [Act.put, List.setIfInBounds_toArray, List.set_cons_zero, List.set_cons_succ, i64_w, i32_w]
                                rfl
                              refine pure_ (i := 1) (N := some 23) (v := ?_) (a' := ?_) #[true, true, false, false, false, false, false, false, false, false, false, false, false, false, false, false, false, false, false, false, false, false, false, false, false] rfl rfl (any_of HT_.out (by kernel_rfl)) (fun _ _ _ h => h) (Or.inl ⟨by rfl, ?_⟩) ?_ ?_
                              rotate_left
                              · intro w'
                                go_simp
                                with_reducible rfl
                              rotate_left
                              · simp only [Act.put, List.setIfInBounds_toArray, List.set_cons_zero, List.set_cons_succ, i64_w, i32_w]
                                rfl
                              refine pure_ (i := 2) (N := some 24) (v := ?_) (a' := ?_) #[true, true, true, false, false, false, false, false, false, false, false, false, false, false, false, false, false, false, false, false, false, false, false, false, false] rfl rfl (any_of HT_.out (by kernel_rfl)) (fun _ _ _ h => h) (Or.inl ⟨by rfl, ?_⟩) ?_ ?_
                              rotate_left
                              · intro w'
                                go_simp
                                with_reducible rfl
                              rotate_left
                              · simp only [Act.put, List.setIfInBounds_toArray, List.set_cons_zero, List.set_cons_succ, i64_w, i32_w]
                                rfl
                              refine pure_ (i := 4) (N := some 26) (v := ?_) (a' := ?_) #[true, true, true, false, true, false, false, false, false, false, false, false, false, false, false, false, false, false, false, false, false, false, false, false, false] rfl rfl (any_of HT_.out (by kernel_rfl)) (fun _ _ _ h => h) (Or.inl ⟨by rfl, ?_⟩) ?_ ?_
                              rotate_left
                              · intro w'
                                go_simp
                                with_reducible rfl
                              rotate_left
                              · simp only [Act.put, List.setIfInBounds_toArray, List.set_cons_zero, List.set_cons_succ, i64_w, i32_w]
                                rfl
                              refine pure_ (i := 5) (N := some 27) (v := ?_) (a' := ?_) #[true, true, true, false, true, true, false, false, false, false, false, false, false, false, false, false, false, false, false, false, false, false, false, false, false] rfl rfl (any_of HT_.out (by kernel_rfl)) (fun _ _ _ h => h) (Or.inl ⟨by rfl, ?_⟩) ?_ ?_
                              rotate_left
                              · intro w'
                                go_simp
                                with_reducible rfl
                              rotate_left
                              · simp only [Act.put, List.setIfInBounds_toArray, List.set_cons_zero, List.set_cons_succ, i64_w, i32_w]
                                rfl
                              refine pure_ (i := 6) (N := some 28) (v := ?_) (a' := ?_) #[true, true, true, false, true, true, true, false, false, false, false, false, false, false, false, false, false, false, false, false, false, false, false, false, false] rfl rfl (any_of HT_.out (by kernel_rfl)) (fun _ _ _ h => h) (Or.inl ⟨by rfl, ?_⟩) ?_ ?_
                              rotate_left
                              · intro w'
                                go_simp
                                with_reducible rfl
                              rotate_left
                              · simp only [Act.put, List.setIfInBounds_toArray, List.set_cons_zero, List.set_cons_succ, i64_w, i32_w]
                                rfl
                              refine take_ (i := 3) (N := some 25) (v := ?_) (a' := ?_) #[true, true, true, true, true, true, true, false, false, false, false, false, false, false, false, false, false, false, false, false, false, false, false, false, false] rfl rfl (take_ofW HT_.out HW_.out (by kernel_rfl)) (fun _ _ _ h => h) (Or.inl ⟨by rfl, ?_⟩) hHeld ?_ ?_
                              rotate_left
                              · rintro w' ⟨s0, s1, s2, s3, s4, s5, s6, s7, s8, s9, s10, s11, s12, s13, s14, s15⟩
                                go_simp
                                with_reducible rfl
                              rotate_left
                              · simp only [Act.put, List.setIfInBounds_toArray, List.set_cons_zero, List.set_cons_succ, i64_w, i32_w]
                                rfl
                              refine take_ (i := 7) (N := some 29) (v := ?_) (a' := ?_) #[true, true, true, true, true, true, true, true, false, false, false, false, false, false, false, false, false, false, false, false, false, false, false, false, false] rfl rfl (take_ofW HT_.out HW_.out (by kernel_rfl)) (fun _ _ _ h => h) (Or.inl ⟨by rfl, ?_⟩) hHeld ?_ ?_
                              rotate_left
                              · rintro w' ⟨s0, s1, s2, s3, s4, s5, s6, s7, s8, s9, s10, s11, s12, s13, s14, s15⟩
                                go_simp
                                with_reducible rfl
                              rotate_left
                              · simp only [Act.put, List.setIfInBounds_toArray, List.set_cons_zero, List.set_cons_succ, i64_w, i32_w]
                                rfl
                              refine one_ (i := 8) (N := some 30) #[true, true, true, true, true, true, true, true, true, false, false, false, false, false, false, false, false, false, false, false, false, false, false, false, false] rfl rfl (one_of HT_.out (by kernel_rfl)) (by decide) (fun K hK => ?_)
                              refine goes_ Try.func34 (by kernel_rfl) rfl #[.agg #[.int .i64 ((rd_T52 l0 x6_2).f0), .int .i64 ((rd_T52 l0 x6_2).f1), .int .i64 ((rd_T52 l0 x6_2).f2), .int .u64 ((rd_T52 l0 x6_2).f3)], .agg #[.int .i64 ((rd_T52 l0 x4_1).f0), .int .i64 ((rd_T52 l0 x4_1).f1), .int .i64 ((rd_T52 l0 x4_1).f2), .int .u64 ((rd_T52 l0 x4_1).f3)]] (by rfl) rfl rfl (by (try simp only [List.map_toArray, List.map_cons, List.map_nil]); first | done | rfl | (simp only [List.length_drop, List.length_take]; rfl)) ?_
                              with_reducible refine (tattleref03_Less.calls ((rd_T52 l0 x6_2).f0) ((rd_T52 l0 x6_2).f1) ((rd_T52 l0 x6_2).f2) ((rd_T52 l0 x6_2).f3) ((rd_T52 l0 x4_1).f0) ((rd_T52 l0 x4_1).f1) ((rd_T52 l0 x4_1).f2) ((rd_T52 l0 x4_1).f3) false _ A11.out).mono ?_
                              rintro e w20 ⟨rfl, hb⟩
                              refine ⟨_, rfl, ?_⟩
                              have n0_ := Aside0.mk (Kd.R_below (by (with_reducible repeat (first | apply Kd.R_alloc | apply Kd.R_drewN | apply Kd.R_drew)); exact HO_3.out) hb)
                              have n1_ := Aside0.mk (below_step (by repeat (first | (with_reducible first | exact HB.out | apply below_alloc | apply pw_below_drewN | apply below_drew1) | exact HB.out)) hb)
                              clear HO_3
                              clear HB
                              have HO_3 := n0_
                              have HB := n1_
                              clear n0_ n1_
                              (try clear hb)
                              (try clear hb2)
                              (try clear hk)
                              (try clear hi)
                              refine hK.out _ _ ⟨((HB.out.cell (World.block_lt_of_cell? w _ hw421_0)).trans hw421_0), ((HB.out.cell (World.block_lt_of_cell? w _ hw421_1)).trans hw421_1), ((HB.out.cell (World.block_lt_of_cell? w _ hw421_2)).trans hw421_2), ((HB.out.cell (World.block_lt_of_cell? w _ hw421_3)).trans hw421_3), ((HB.out.cell (World.block_lt_of_cell? w _ hw422_0)).trans hw422_0), ((HB.out.cell (World.block_lt_of_cell? w _ hw422_1)).trans hw422_1), ((HB.out.cell (World.block_lt_of_cell? w _ hw422_2)).trans hw422_2), ((HB.out.cell (World.block_lt_of_cell? w _ hw422_3)).trans hw422_3), ((HB.out.cell (World.block_lt_of_cell? w _ hw424_0)).trans hw424_0), ((HB.out.cell (World.block_lt_of_cell? w _ hw424_1)).trans hw424_1), ((HB.out.cell (World.block_lt_of_cell? w _ hw424_2)).trans hw424_2), ((HB.out.cell (World.block_lt_of_cell? w _ hw424_3)).trans hw424_3), ((HB.out.cell (World.block_lt_of_cell? w _ hw425_0)).trans hw425_0), ((HB.out.cell (World.block_lt_of_cell? w _ hw425_1)).trans hw425_1), ((HB.out.cell (World.block_lt_of_cell? w _ hw425_2)).trans hw425_2), ((HB.out.cell (World.block_lt_of_cell? w _ hw425_3)).trans hw425_3)⟩ (fun hHeld => ?_)
                              clear hK K
                              refine norm_ (a' := ?_) ?_ ?_
                              rotate_left
                              · show Act.put _ (some 30) _ = _
                                simp only [Act.put, List.setIfInBounds_toArray, List.set_cons_zero, List.set_cons_succ, i64_w, i32_w]
                                rfl
                              refine pure_ (i := 9) (N := some 31) (v := ?_) (a' := ?_) #[true, true, true, true, true, true, true, true, true, true, false, false, false, false, false, false, false, false, false, false, false, false, false, false, false] rfl rfl (any_of HT_.out (by kernel_rfl)) (fun _ _ _ h => h) (Or.inl ⟨by rfl, ?_⟩) ?_ ?_
                              rotate_left
                              · intro w'
                                go_simp
                                with_reducible rfl
                              rotate_left
                              · simp only [Act.put, List.setIfInBounds_toArray, List.set_cons_zero, List.set_cons_succ, i64_w, i32_w]
                                rfl
                              refine pure_ (i := 10) (N := some 32) (v := ?_) (a' := ?_) #[true, true, true, true, true, true, true, true, true, true, true, false, false, false, false, false, false, false, false, false, false, false, false, false, false] rfl rfl (any_of HT_.out (by kernel_rfl)) (fun _ _ _ h => h) (Or.inl ⟨by rfl, ?_⟩) ?_ ?_
                              rotate_left
                              · intro w'
                                go_simp
                                with_reducible rfl
                              rotate_left
                              · simp only [Act.put, List.setIfInBounds_toArray, List.set_cons_zero, List.set_cons_succ, i64_w, i32_w]
                                rfl
                              refine pure_ (i := 11) (N := some 33) (v := ?_) (a' := ?_) #[true, true, true, true, true, true, true, true, true, true, true, true, false, false, false, false, false, false, false, false, false, false, false, false, false] rfl rfl (any_of HT_.out (by kernel_rfl)) (fun _ _ _ h => h) (Or.inl ⟨by rfl, ?_⟩) ?_ ?_
                              rotate_left
                              · intro w'
                                go_simp
                                with_reducible rfl
                              rotate_left
                              · simp only [Act.put, List.setIfInBounds_toArray, List.set_cons_zero, List.set_cons_succ, i64_w, i32_w]
                                rfl
                              refine pure_ (i := 12) (N := some 34) (v := ?_) (a' := ?_) #[true, true, true, true, true, true, true, true, true, true, true, true, true, false, false, false, false, false, false, false, false, false, false, false, false] rfl rfl (any_of HT_.out (by kernel_rfl)) (fun _ _ _ h => h) (Or.inl ⟨by rfl, ?_⟩) ?_ ?_
                              rotate_left
                              · intro w'
                                go_simp
                                with_reducible rfl
                              rotate_left
                              · simp only [Act.put, List.setIfInBounds_toArray, List.set_cons_zero, List.set_cons_succ, i64_w, i32_w]
                                rfl
                              refine pure_ (i := 14) (N := some 36) (v := ?_) (a' := ?_) #[true, true, true, true, true, true, true, true, true, true, true, true, true, false, true, false, false, false, false, false, false, false, false, false, false] rfl rfl (any_of HT_.out (by kernel_rfl)) (fun _ _ _ h => h) (Or.inl ⟨by rfl, ?_⟩) ?_ ?_
                              rotate_left
                              · intro w'
                                go_simp
                                with_reducible rfl
                              rotate_left
                              · simp only [Act.put, List.setIfInBounds_toArray, List.set_cons_zero, List.set_cons_succ, i64_w, i32_w]
                                rfl
                              refine pure_ (i := 15) (N := some 37) (v := ?_) (a' := ?_) #[true, true, true, true, true, true, true, true, true, true, true, true, true, false, true, true, false, false, false, false, false, false, false, false, false] rfl rfl (any_of HT_.out (by kernel_rfl)) (fun _ _ _ h => h) (Or.inl ⟨by rfl, ?_⟩) ?_ ?_
                              rotate_left
                              · intro w'
                                go_simp
                                with_reducible rfl
                              rotate_left
                              · simp only [Act.put, List.setIfInBounds_toArray, List.set_cons_zero, List.set_cons_succ, i64_w, i32_w]
                                rfl
                              refine pure_ (i := 16) (N := some 38) (v := ?_) (a' := ?_) #[true, true, true, true, true, true, true, true, true, true, true, true, true, false, true, true, true, false, false, false, false, false, false, false, false] rfl rfl (any_of HT_.out (by kernel_rfl)) (fun _ _ _ h => h) (Or.inl ⟨by rfl, ?_⟩) ?_ ?_
                              rotate_left
                              · intro w'
                                go_simp
                                with_reducible rfl
                              rotate_left
                              · simp only [Act.put, List.setIfInBounds_toArray, List.set_cons_zero, List.set_cons_succ, i64_w, i32_w]
                                rfl
                              refine take_ (i := 13) (N := some 35) (v := ?_) (a' := ?_) #[true, true, true, true, true, true, true, true, true, true, true, true, true, true, true, true, true, false, false, false, false, false, false, false, false] rfl rfl (take_ofW HT_.out HW_.out (by kernel_rfl)) (fun _ _ _ h => h) (Or.inl ⟨by rfl, ?_⟩) hHeld ?_ ?_
                              rotate_left
                              · rintro w' ⟨s0, s1, s2, s3, s4, s5, s6, s7, s8, s9, s10, s11, s12, s13, s14, s15⟩
                                go_simp
                                with_reducible rfl
                              rotate_left
                              · simp only [Act.put, List.setIfInBounds_toArray, List.set_cons_zero, List.set_cons_succ, i64_w, i32_w]
                                rfl
                              refine take_ (i := 17) (N := some 39) (v := ?_) (a' := ?_) #[true, true, true, true, true, true, true, true, true, true, true, true, true, true, true, true, true, true, false, false, false, false, false, false, false] rfl rfl (take_ofW HT_.out HW_.out (by kernel_rfl)) (fun _ _ _ h => h) (Or.inl ⟨by rfl, ?_⟩) hHeld ?_ ?_
                              rotate_left
                              · rintro w' ⟨s0, s1, s2, s3, s4, s5, s6, s7, s8, s9, s10, s11, s12, s13, s14, s15⟩
                                go_simp
                                with_reducible rfl
                              rotate_left
                              · simp only [Act.put, List.setIfInBounds_toArray, List.set_cons_zero, List.set_cons_succ, i64_w, i32_w]
                                rfl
                              refine pure_ (i := 18) (N := some 40) (v := ?_) (a' := ?_) #[true, true, true, true, true, true, true, true, true, true, true, true, true, true, true, true, true, true, true, false, false, false, false, false, false] rfl rfl (any_of HT_.out (by kernel_rfl)) (fun _ _ _ h => h) (Or.inl ⟨by rfl, ?_⟩) ?_ ?_
                              rotate_left
                              · intro w'
                                go_simp
                                with_reducible rfl
                              rotate_left
                              · simp only [Act.put, List.setIfInBounds_toArray, List.set_cons_zero, List.set_cons_succ, i64_w, i32_w]
                                rfl
                              refine pure_ (i := 19) (N := some 41) (v := ?_) (a' := ?_) #[true, true, true, true, true, true, true, true, true, true, true, true, true, true, true, true, true, true, true, true, false, false, false, false, false] rfl rfl (any_of HT_.out (by kernel_rfl)) (fun _ _ _ h => h) (Or.inl ⟨by rfl, ?_⟩) ?_ ?_
                              rotate_left
                              · intro w'
                                go_simp
                                with_reducible rfl
                              rotate_left
                              · simp only [Act.put, List.setIfInBounds_toArray, List.set_cons_zero, List.set_cons_succ, i64_w, i32_w]
                                rfl
                              refine pure_ (i := 20) (N := some 42) (v := ?_) (a' := ?_) #[true, true, true, true, true, true, true, true, true, true, true, true, true, true, true, true, true, true, true, true, true, false, false, false, false] rfl rfl (any_of HT_.out (by kernel_rfl)) (fun _ _ _ h => h) (Or.inl ⟨by rfl, ?_⟩) ?_ ?_
                              rotate_left
                              · intro w'
                                go_simp
                                with_reducible rfl
                              rotate_left
                              · simp only [Act.put, List.setIfInBounds_toArray, List.set_cons_zero, List.set_cons_succ, i64_w, i32_w]
                                rfl
                              refine pure_ (i := 21) (N := some 43) (v := ?_) (a' := ?_) #[true, true, true, true, true, true, true, true, true, true, true, true, true, true, true, true, true, true, true, true, true, true, false, false, false] rfl rfl (any_of HT_.out (by kernel_rfl)) (fun _ _ _ h => h) (Or.inl ⟨by rfl, ?_⟩) ?_ ?_
                              rotate_left
                              · intro w'
                                go_simp
                                with_reducible rfl
                              rotate_left
                              · simp only [Act.put, List.setIfInBounds_toArray, List.set_cons_zero, List.set_cons_succ, i64_w, i32_w]
                                rfl
                              refine pure_ (i := 22) (N := some 44) (v := ?_) (a' := ?_) #[true, true, true, true, true, true, true, true, true, true, true, true, true, true, true, true, true, true, true, true, true, true, true, false, false] rfl rfl (any_of HT_.out (by kernel_rfl)) (fun _ _ _ h => h) (Or.inl ⟨by rfl, ?_⟩) ?_ ?_
                              rotate_left
                              · intro w'
                                go_simp
                                with_reducible rfl
                              rotate_left
                              · simp only [Act.put, List.setIfInBounds_toArray, List.set_cons_zero, List.set_cons_succ, i64_w, i32_w]
                                rfl
                              refine pure_ (i := 23) (N := some 45) (v := ?_) (a' := ?_) #[true, true, true, true, true, true, true, true, true, true, true, true, true, true, true, true, true, true, true, true, true, true, true, true, false] rfl rfl (any_of HT_.out (by kernel_rfl)) (fun _ _ _ h => h) (Or.inl ⟨by rfl, ?_⟩) ?_ ?_
                              rotate_left
                              · intro w'
                                go_simp
                                with_reducible rfl
                              rotate_left
                              · simp only [Act.put, List.setIfInBounds_toArray, List.set_cons_zero, List.set_cons_succ, i64_w, i32_w]
                                rfl
                              refine pure_ (i := 24) (N := some 46) (v := ?_) (a' := ?_) #[true, true, true, true, true, true, true, true, true, true, true, true, true, true, true, true, true, true, true, true, true, true, true, true, true] rfl rfl (any_of HT_.out (by kernel_rfl)) (fun _ _ _ h => h) (Or.inl ⟨by rfl, ?_⟩) ?_ ?_
                              rotate_left
                              · intro w'
                                go_simp
                                with_reducible rfl
                              rotate_left
                              · simp only [Act.put, List.setIfInBounds_toArray, List.set_cons_zero, List.set_cons_succ, i64_w, i32_w]
                                rfl
                              refine done_ (done_of HT_.out (by kernel_rfl)) ?_
                              try go_wp2
                              go_roundg k2
                              case measure => have := HK1.out; have := HK2.out; omega
                              case rel => exact ⟨(x5_2), (wrap64 (x6_2 + 1)), (by first | rfl | (simp; done) | (simp [*]; done)), (by first | rfl | (simp; done) | (simp [*]; done)), H', ⟨by have := HK1.out; have := HK2.out; omega⟩, ⟨by (with_reducible repeat (first | apply Kd.R_alloc | apply Kd.R_drewN | apply Kd.R_drew)); exact HO_3.out⟩, ⟨by repeat (first | (with_reducible first | exact HB.out | apply below_alloc | apply pw_below_drewN | apply below_drew1) | exact HB.out)⟩⟩
                          · rw [if_neg c15] at H
                            have c15b0 : (((rd_T52 l0 x6_2).f0) == ((rd_T52 l0 x4_1).f0) && (((rd_T52 l0 x6_2).f1) == ((rd_T52 l0 x4_1).f1) && (((rd_T52 l0 x6_2).f2) == ((rd_T52 l0 x4_1).f2) && (((rd_T52 l0 x6_2).f3) == ((rd_T52 l0 x4_1).f3))))) = false := by simpa using c15
                            (try (have c15b1 : decide (((rd_T52 l0 x6_2).f0) = ((rd_T52 l0 x4_1).f0) && (((rd_T52 l0 x6_2).f1) == ((rd_T52 l0 x4_1).f1) && (((rd_T52 l0 x6_2).f2) == ((rd_T52 l0 x4_1).f2) && (((rd_T52 l0 x6_2).f3) == ((rd_T52 l0 x4_1).f3))))) = false := by simpa using c15))
                            (try (have c15b2 : (((rd_T52 l0 x6_2).f0) == ((rd_T52 l0 x4_1).f0) && (((rd_T52 l0 x6_2).f1) == ((rd_T52 l0 x4_1).f1) && (((rd_T52 l0 x6_2).f2) == ((rd_T52 l0 x4_1).f2) && (((rd_T52 l0 x6_2).f3) == ((rd_T52 l0 x4_1).f3))))) = false := by simpa using c15))
                            (try (have c15b3 : ¬ (((rd_T52 l0 x6_2).f0) = ((rd_T52 l0 x4_1).f0) && (((rd_T52 l0 x6_2).f1) == ((rd_T52 l0 x4_1).f1) && (((rd_T52 l0 x6_2).f2) == ((rd_T52 l0 x4_1).f2) && (((rd_T52 l0 x6_2).f3) == ((rd_T52 l0 x4_1).f3))))) := by simpa using c15))
                            clear c15
                            have H' := Aside0.mk H
                            clear H
                            try go_wp2
                            have n0_ := Aside0.mk (Kd.R_drew HO_3.out)
                            have n1_ := Aside0.mk (below_drew1 HB.out)
                            clear HO_3
                            clear HB
                            have HO_3 := n0_
                            have HB := n1_
                            clear n0_ n1_
                            have p421 : 0 ≤ (x6_2 : Int) := of_decide_eq_true (by first | (with_reducible assumption) | assumption)
                            have q421 : x6_2 < (l0.length : Int) := of_decide_eq_true (by first | (with_reducible assumption) | assumption)
                            obtain ⟨ad421, e421, hx421_0, hx421_1, hx421_2, hx421_3⟩ := at_T52 HR0.out x6_2 p421 q421
                            have hw421_3 := hx421_3
                            have hw421_2 := hx421_2
                            have hw421_1 := hx421_1
                            have hw421_0 := hx421_0
                            cases e421
                            replace hx421_0 := (HB.out.cell (World.block_lt_of_cell? w _ hx421_0)).trans hx421_0
                            replace hx421_1 := (HB.out.cell (World.block_lt_of_cell? w _ hx421_1)).trans hx421_1
                            replace hx421_2 := (HB.out.cell (World.block_lt_of_cell? w _ hx421_2)).trans hx421_2
                            replace hx421_3 := (HB.out.cell (World.block_lt_of_cell? w _ hx421_3)).trans hx421_3
                            replace p421 := eq_true p421
                            replace q421 := eq_true q421
                            have p422 : 0 ≤ (x4_1 : Int) := of_decide_eq_true (by first | (with_reducible assumption) | assumption)
                            have q422 : x4_1 < (l0.length : Int) := of_decide_eq_true (by first | (with_reducible assumption) | assumption)
                            obtain ⟨ad422, e422, hx422_0, hx422_1, hx422_2, hx422_3⟩ := at_T52 HR0.out x4_1 p422 q422
                            have hw422_3 := hx422_3
                            have hw422_2 := hx422_2
                            have hw422_1 := hx422_1
                            have hw422_0 := hx422_0
                            obtain rfl : ad421 = ad422 := (by injection e422)
                            replace hx422_0 := (HB.out.cell (World.block_lt_of_cell? w _ hx422_0)).trans hx422_0
                            replace hx422_1 := (HB.out.cell (World.block_lt_of_cell? w _ hx422_1)).trans hx422_1
                            replace hx422_2 := (HB.out.cell (World.block_lt_of_cell? w _ hx422_2)).trans hx422_2
                            replace hx422_3 := (HB.out.cell (World.block_lt_of_cell? w _ hx422_3)).trans hx422_3
                            replace p422 := eq_true p422
                            replace q422 := eq_true q422
                            have p424 : 0 ≤ (x6_2 : Int) := of_decide_eq_true (by first | (with_reducible assumption) | assumption)
                            have q424 : x6_2 < (l0.length : Int) := of_decide_eq_true (by first | (with_reducible assumption) | assumption)
                            obtain ⟨ad424, e424, hx424_0, hx424_1, hx424_2, hx424_3⟩ := at_T52 HR0.out x6_2 p424 q424
                            have hw424_3 := hx424_3
                            have hw424_2 := hx424_2
                            have hw424_1 := hx424_1
                            have hw424_0 := hx424_0
                            obtain rfl : ad421 = ad424 := (by injection e424)
                            replace hx424_0 := (HB.out.cell (World.block_lt_of_cell? w _ hx424_0)).trans hx424_0
                            replace hx424_1 := (HB.out.cell (World.block_lt_of_cell? w _ hx424_1)).trans hx424_1
                            replace hx424_2 := (HB.out.cell (World.block_lt_of_cell? w _ hx424_2)).trans hx424_2
                            replace hx424_3 := (HB.out.cell (World.block_lt_of_cell? w _ hx424_3)).trans hx424_3
                            replace p424 := eq_true p424
                            replace q424 := eq_true q424
                            have p425 : 0 ≤ (x4_1 : Int) := of_decide_eq_true (by first | (with_reducible assumption) | assumption)
                            have q425 : x4_1 < (l0.length : Int) := of_decide_eq_true (by first | (with_reducible assumption) | assumption)
                            obtain ⟨ad425, e425, hx425_0, hx425_1, hx425_2, hx425_3⟩ := at_T52 HR0.out x4_1 p425 q425
                            have hw425_3 := hx425_3
                            have hw425_2 := hx425_2
                            have hw425_1 := hx425_1
                            have hw425_0 := hx425_0
                            obtain rfl : ad421 = ad425 := (by injection e425)
                            replace hx425_0 := (HB.out.cell (World.block_lt_of_cell? w _ hx425_0)).trans hx425_0
                            replace hx425_1 := (HB.out.cell (World.block_lt_of_cell? w _ hx425_1)).trans hx425_1
                            replace hx425_2 := (HB.out.cell (World.block_lt_of_cell? w _ hx425_2)).trans hx425_2
                            replace hx425_3 := (HB.out.cell (World.block_lt_of_cell? w _ hx425_3)).trans hx425_3
                            replace p425 := eq_true p425
                            replace q425 := eq_true q425
                            refine start_ (n := 25) (S := fun w' => w'.cell? (ad421.add ((x6_2).toNat * 4)) = some (.int .i64 ((rd_T52 l0 x6_2).f0)) ∧ w'.cell? ⟨(ad421.add ((x6_2).toNat * 4)).block, (ad421.add ((x6_2).toNat * 4)).off + 1, none⟩ = some (.int .i64 ((rd_T52 l0 x6_2).f1)) ∧ w'.cell? ⟨(ad421.add ((x6_2).toNat * 4)).block, (ad421.add ((x6_2).toNat * 4)).off + 2, none⟩ = some (.int .i64 ((rd_T52 l0 x6_2).f2)) ∧ w'.cell? ⟨(ad421.add ((x6_2).toNat * 4)).block, (ad421.add ((x6_2).toNat * 4)).off + 3, none⟩ = some (.int .u64 ((rd_T52 l0 x6_2).f3)) ∧ w'.cell? (ad421.add ((x4_1).toNat * 4)) = some (.int .i64 ((rd_T52 l0 x4_1).f0)) ∧ w'.cell? ⟨(ad421.add ((x4_1).toNat * 4)).block, (ad421.add ((x4_1).toNat * 4)).off + 1, none⟩ = some (.int .i64 ((rd_T52 l0 x4_1).f1)) ∧ w'.cell? ⟨(ad421.add ((x4_1).toNat * 4)).block, (ad421.add ((x4_1).toNat * 4)).off + 2, none⟩ = some (.int .i64 ((rd_T52 l0 x4_1).f2)) ∧ w'.cell? ⟨(ad421.add ((x4_1).toNat * 4)).block, (ad421.add ((x4_1).toNat * 4)).off + 3, none⟩ = some (.int .u64 ((rd_T52 l0 x4_1).f3)) ∧ w'.cell? (ad421.add ((x6_2).toNat * 4)) = some (.int .i64 ((rd_T52 l0 x6_2).f0)) ∧ w'.cell? ⟨(ad421.add ((x6_2).toNat * 4)).block, (ad421.add ((x6_2).toNat * 4)).off + 1, none⟩ = some (.int .i64 ((rd_T52 l0 x6_2).f1)) ∧ w'.cell? ⟨(ad421.add ((x6_2).toNat * 4)).block, (ad421.add ((x6_2).toNat * 4)).off + 2, none⟩ = some (.int .i64 ((rd_T52 l0 x6_2).f2)) ∧ w'.cell? ⟨(ad421.add ((x6_2).toNat * 4)).block, (ad421.add ((x6_2).toNat * 4)).off + 3, none⟩ = some (.int .u64 ((rd_T52 l0 x6_2).f3)) ∧ w'.cell? (ad421.add ((x4_1).toNat * 4)) = some (.int .i64 ((rd_T52 l0 x4_1).f0)) ∧ w'.cell? ⟨(ad421.add ((x4_1).toNat * 4)).block, (ad421.add ((x4_1).toNat * 4)).off + 1, none⟩ = some (.int .i64 ((rd_T52 l0 x4_1).f1)) ∧ w'.cell? ⟨(ad421.add ((x4_1).toNat * 4)).block, (ad421.add ((x4_1).toNat * 4)).off + 2, none⟩ = some (.int .i64 ((rd_T52 l0 x4_1).f2)) ∧ w'.cell? ⟨(ad421.add ((x4_1).toNat * 4)).block, (ad421.add ((x4_1).toNat * 4)).off + 3, none⟩ = some (.int .u64 ((rd_T52 l0 x4_1).f3))) (ds := []) #[false, false, false, false, false, false, false, false, false, false, false, false, false, false, false, false, false, false, false, false, false, false, false, false, false] (by kernel_rfl) rfl rfl ⟨((HB.out.cell (World.block_lt_of_cell? w _ hw421_0)).trans hw421_0), ((HB.out.cell (World.block_lt_of_cell? w _ hw421_1)).trans hw421_1), ((HB.out.cell (World.block_lt_of_cell? w _ hw421_2)).trans hw421_2), ((HB.out.cell (World.block_lt_of_cell? w _ hw421_3)).trans hw421_3), ((HB.out.cell (World.block_lt_of_cell? w _ hw422_0)).trans hw422_0), ((HB.out.cell (World.block_lt_of_cell? w _ hw422_1)).trans hw422_1), ((HB.out.cell (World.block_lt_of_cell? w _ hw422_2)).trans hw422_2), ((HB.out.cell (World.block_lt_of_cell? w _ hw422_3)).trans hw422_3), ((HB.out.cell (World.block_lt_of_cell? w _ hw424_0)).trans hw424_0), ((HB.out.cell (World.block_lt_of_cell? w _ hw424_1)).trans hw424_1), ((HB.out.cell (World.block_lt_of_cell? w _ hw424_2)).trans hw424_2), ((HB.out.cell (World.block_lt_of_cell? w _ hw424_3)).trans hw424_3), ((HB.out.cell (World.block_lt_of_cell? w _ hw425_0)).trans hw425_0), ((HB.out.cell (World.block_lt_of_cell? w _ hw425_1)).trans hw425_1), ((HB.out.cell (World.block_lt_of_cell? w _ hw425_2)).trans hw425_2), ((HB.out.cell (World.block_lt_of_cell? w _ hw425_3)).trans hw425_3)⟩ (fun hHeld => ?_); refine with_tabW tattleref03_Sort.tab9 tattleref03_Sort.bits9 (fun HT_ HW_ => ?_)
                            generalize wr.drew = w21 at HO_3 HB hx421_0 hx421_1 hx421_2 hx421_3 hx422_0 hx422_1 hx422_2 hx422_3 hx424_0 hx424_1 hx424_2 hx424_3 hx425_0 hx425_1 hx425_2 hx425_3 hHeld ⊢
                            refine pure_ (i := 0) (N := some 22) (v := ?_) (a' := ?_) #[true, false, false, false, false, false, false, false, false, false, false, false, false, false, false, false, false, false, false, false, false, false, false, false, false] rfl rfl (any_of HT_.out (by kernel_rfl)) (fun _ _ _ h => h) (Or.inl ⟨by rfl, ?_⟩) ?_ ?_
                            rotate_left
                            · intro w'
                              go_simp
                              with_reducible rfl
                            rotate_left
                            · simp only [Act.put, List.setIfInBounds_toArray, List.set_cons_zero, List.set_cons_succ, i64_w, i32_w]
                              rfl
                            refine pure_ (i := 1) (N := some 23) (v := ?_) (a' := ?_) #[true, true, false, false, false, false, false, false, false, false, false, false, false, false, false, false, false, false, false, false, false, false, false, false, false] rfl rfl (any_of HT_.out (by kernel_rfl)) (fun _ _ _ h => h) (Or.inl ⟨by rfl, ?_⟩) ?_ ?_
                            rotate_left
                            · intro w'
                              go_simp
                              with_reducible rfl
                            rotate_left
                            · simp only [Act.put, List.setIfInBounds_toArray, List.set_cons_zero, List.set_cons_succ, i64_w, i32_w]
                              rfl
                            refine pure_ (i := 2) (N := some 24) (v := ?_) (a' := ?_) #[true, true, true, false, false, false, false, false, false, false, false, false, false, false, false, false, false, false, false, false, false, false, false, false, false] rfl rfl (any_of HT_.out (by kernel_rfl)) (fun _ _ _ h => h) (Or.inl ⟨by rfl, ?_⟩) ?_ ?_
                            rotate_left
                            · intro w'
                              go_simp
                              with_reducible rfl
                            rotate_left
                            · simp only [Act.put, List.setIfInBounds_toArray, List.set_cons_zero, List.set_cons_succ, i64_w, i32_w]
                              rfl
                            refine pure_ (i := 4) (N := some 26) (v := ?_) (a' := ?_) #[true, true, true, false, true, false, false, false, false, false, false, false, false, false, false, false, false, false, false, false, false, false, false, false, false] rfl rfl (any_of HT_.out (by kernel_rfl)) (fun _ _ _ h => h) (Or.inl ⟨by rfl, ?_⟩) ?_ ?_
                            rotate_left
                            · intro w'
                              go_simp
                              with_reducible rfl
                            rotate_left
                            · simp only [Act.put, List.setIfInBounds_toArray, List.set_cons_zero, List.set_cons_succ, i64_w, i32_w]
                              rfl
                            refine pure_ (i := 5) (N := some 27) (v := ?_) (a' := ?_) #[true, true, true, false, true, true, false, false, false, false, false, false, false, false, false, false, false, false, false, false, false, false, false, false, false] rfl rfl (any_of HT_.out (by kernel_rfl)) (fun _ _ _ h => h) (Or.inl ⟨by rfl, ?_⟩) ?_ ?_
                            rotate_left
                            · intro w'
                              go_simp
                              with_reducible rfl
                            rotate_left
                            · simp only [Act.put, List.setIfInBounds_toArray, List.set_cons_zero, List.set_cons_succ, i64_w, i32_w]
                              rfl
                            refine pure_ (i := 6) (N := some 28) (v := ?_) (a' := ?_) #[true, true, true, false, true, true, true, false, false, false, false, false, false, false, false, false, false, false, false, false, false, false, false, false, false] rfl rfl (any_of HT_.out (by kernel_rfl)) (fun _ _ _ h => h) (Or.inl ⟨by rfl, ?_⟩) ?_ ?_
                            rotate_left
                            · intro w'
                              go_simp
                              with_reducible rfl
                            rotate_left
                            · simp only [Act.put, List.setIfInBounds_toArray, List.set_cons_zero, List.set_cons_succ, i64_w, i32_w]
                              rfl
                            refine take_ (i := 3) (N := some 25) (v := ?_) (a' := ?_) #[true, true, true, true, true, true, true, false, false, false, false, false, false, false, false, false, false, false, false, false, false, false, false, false, false] rfl rfl (take_ofW HT_.out HW_.out (by kernel_rfl)) (fun _ _ _ h => h) (Or.inl ⟨by rfl, ?_⟩) hHeld ?_ ?_
                            rotate_left
                            · rintro w' ⟨s0, s1, s2, s3, s4, s5, s6, s7, s8, s9, s10, s11, s12, s13, s14, s15⟩
                              go_simp
                              with_reducible rfl
                            rotate_left
                            · simp only [Act.put, List.setIfInBounds_toArray, List.set_cons_zero, List.set_cons_succ, i64_w, i32_w]
                              rfl
                            refine take_ (i := 7) (N := some 29) (v := ?_) (a' := ?_) #[true, true, true, true, true, true, true, true, false, false, false, false, false, false, false, false, false, false, false, false, false, false, false, false, false] rfl rfl (take_ofW HT_.out HW_.out (by kernel_rfl)) (fun _ _ _ h => h) (Or.inl ⟨by rfl, ?_⟩) hHeld ?_ ?_
                            rotate_left
                            · rintro w' ⟨s0, s1, s2, s3, s4, s5, s6, s7, s8, s9, s10, s11, s12, s13, s14, s15⟩
                              go_simp
                              with_reducible rfl
                            rotate_left
                            · simp only [Act.put, List.setIfInBounds_toArray, List.set_cons_zero, List.set_cons_succ, i64_w, i32_w]
                              rfl
                            refine one_ (i := 8) (N := some 30) #[true, true, true, true, true, true, true, true, true, false, false, false, false, false, false, false, false, false, false, false, false, false, false, false, false] rfl rfl (one_of HT_.out (by kernel_rfl)) (by decide) (fun K hK => ?_)
                            refine goes_ Try.func34 (by kernel_rfl) rfl #[.agg #[.int .i64 ((rd_T52 l0 x6_2).f0), .int .i64 ((rd_T52 l0 x6_2).f1), .int .i64 ((rd_T52 l0 x6_2).f2), .int .u64 ((rd_T52 l0 x6_2).f3)], .agg #[.int .i64 ((rd_T52 l0 x4_1).f0), .int .i64 ((rd_T52 l0 x4_1).f1), .int .i64 ((rd_T52 l0 x4_1).f2), .int .u64 ((rd_T52 l0 x4_1).f3)]] (by rfl) rfl rfl (by (try simp only [List.map_toArray, List.map_cons, List.map_nil]); first | done | rfl | (simp only [List.length_drop, List.length_take]; rfl)) ?_
                            with_reducible refine (tattleref03_Less.calls ((rd_T52 l0 x6_2).f0) ((rd_T52 l0 x6_2).f1) ((rd_T52 l0 x6_2).f2) ((rd_T52 l0 x6_2).f3) ((rd_T52 l0 x4_1).f0) ((rd_T52 l0 x4_1).f1) ((rd_T52 l0 x4_1).f2) ((rd_T52 l0 x4_1).f3) false _ A11.out).mono ?_
                            rintro e w22 ⟨rfl, hb⟩
                            refine ⟨_, rfl, ?_⟩
                            have n0_ := Aside0.mk (Kd.R_below (by (with_reducible repeat (first | apply Kd.R_alloc | apply Kd.R_drewN | apply Kd.R_drew)); exact HO_3.out) hb)
                            have n1_ := Aside0.mk (below_step (by repeat (first | (with_reducible first | exact HB.out | apply below_alloc | apply pw_below_drewN | apply below_drew1) | exact HB.out)) hb)
                            clear HO_3
                            clear HB
                            have HO_3 := n0_
                            have HB := n1_
                            clear n0_ n1_
                            (try clear hb)
                            (try clear hb2)
                            (try clear hk)
                            (try clear hi)
                            refine hK.out _ _ ⟨((HB.out.cell (World.block_lt_of_cell? w _ hw421_0)).trans hw421_0), ((HB.out.cell (World.block_lt_of_cell? w _ hw421_1)).trans hw421_1), ((HB.out.cell (World.block_lt_of_cell? w _ hw421_2)).trans hw421_2), ((HB.out.cell (World.block_lt_of_cell? w _ hw421_3)).trans hw421_3), ((HB.out.cell (World.block_lt_of_cell? w _ hw422_0)).trans hw422_0), ((HB.out.cell (World.block_lt_of_cell? w _ hw422_1)).trans hw422_1), ((HB.out.cell (World.block_lt_of_cell? w _ hw422_2)).trans hw422_2), ((HB.out.cell (World.block_lt_of_cell? w _ hw422_3)).trans hw422_3), ((HB.out.cell (World.block_lt_of_cell? w _ hw424_0)).trans hw424_0), ((HB.out.cell (World.block_lt_of_cell? w _ hw424_1)).trans hw424_1), ((HB.out.cell (World.block_lt_of_cell? w _ hw424_2)).trans hw424_2), ((HB.out.cell (World.block_lt_of_cell? w _ hw424_3)).trans hw424_3), ((HB.out.cell (World.block_lt_of_cell? w _ hw425_0)).trans hw425_0), ((HB.out.cell (World.block_lt_of_cell? w _ hw425_1)).trans hw425_1), ((HB.out.cell (World.block_lt_of_cell? w _ hw425_2)).trans hw425_2), ((HB.out.cell (World.block_lt_of_cell? w _ hw425_3)).trans hw425_3)⟩ (fun hHeld => ?_)
                            clear hK K
                            refine norm_ (a' := ?_) ?_ ?_
                            rotate_left
                            · show Act.put _ (some 30) _ = _
                              simp only [Act.put, List.setIfInBounds_toArray, List.set_cons_zero, List.set_cons_succ, i64_w, i32_w]
                              rfl
                            refine pure_ (i := 9) (N := some 31) (v := ?_) (a' := ?_) #[true, true, true, true, true, true, true, true, true, true, false, false, false, false, false, false, false, false, false, false, false, false, false, false, false] rfl rfl (any_of HT_.out (by kernel_rfl)) (fun _ _ _ h => h) (Or.inl ⟨by rfl, ?_⟩) ?_ ?_
                            rotate_left
                            · intro w'
                              go_simp
                              with_reducible rfl
                            rotate_left
                            · simp only [Act.put, List.setIfInBounds_toArray, List.set_cons_zero, List.set_cons_succ, i64_w, i32_w]
                              rfl
                            refine pure_ (i := 10) (N := some 32) (v := ?_) (a' := ?_) #[true, true, true, true, true, true, true, true, true, true, true, false, false, false, false, false, false, false, false, false, false, false, false, false, false] rfl rfl (any_of HT_.out (by kernel_rfl)) (fun _ _ _ h => h) (Or.inl ⟨by rfl, ?_⟩) ?_ ?_
                            rotate_left
                            · intro w'
                              go_simp
                              with_reducible rfl
                            rotate_left
                            · simp only [Act.put, List.setIfInBounds_toArray, List.set_cons_zero, List.set_cons_succ, i64_w, i32_w]
                              rfl
                            refine pure_ (i := 11) (N := some 33) (v := ?_) (a' := ?_) #[true, true, true, true, true, true, true, true, true, true, true, true, false, false, false, false, false, false, false, false, false, false, false, false, false] rfl rfl (any_of HT_.out (by kernel_rfl)) (fun _ _ _ h => h) (Or.inl ⟨by rfl, ?_⟩) ?_ ?_
                            rotate_left
                            · intro w'
                              go_simp
                              with_reducible rfl
                            rotate_left
                            · simp only [Act.put, List.setIfInBounds_toArray, List.set_cons_zero, List.set_cons_succ, i64_w, i32_w]
                              rfl
                            refine pure_ (i := 12) (N := some 34) (v := ?_) (a' := ?_) #[true, true, true, true, true, true, true, true, true, true, true, true, true, false, false, false, false, false, false, false, false, false, false, false, false] rfl rfl (any_of HT_.out (by kernel_rfl)) (fun _ _ _ h => h) (Or.inl ⟨by rfl, ?_⟩) ?_ ?_
                            rotate_left
                            · intro w'
                              go_simp
                              with_reducible rfl
                            rotate_left
                            · simp only [Act.put, List.setIfInBounds_toArray, List.set_cons_zero, List.set_cons_succ, i64_w, i32_w]
                              rfl
                            refine pure_ (i := 14) (N := some 36) (v := ?_) (a' := ?_) #[true, true, true, true, true, true, true, true, true, true, true, true, true, false, true, false, false, false, false, false, false, false, false, false, false] rfl rfl (any_of HT_.out (by kernel_rfl)) (fun _ _ _ h => h) (Or.inl ⟨by rfl, ?_⟩) ?_ ?_
                            rotate_left
                            · intro w'
                              go_simp
                              with_reducible rfl
                            rotate_left
                            · simp only [Act.put, List.setIfInBounds_toArray, List.set_cons_zero, List.set_cons_succ, i64_w, i32_w]
                              rfl
                            refine pure_ (i := 15) (N := some 37) (v := ?_) (a' := ?_) #[true, true, true, true, true, true, true, true, true, true, true, true, true, false, true, true, false, false, false, false, false, false, false, false, false] rfl rfl (any_of HT_.out (by kernel_rfl)) (fun _ _ _ h => h) (Or.inl ⟨by rfl, ?_⟩) ?_ ?_
                            rotate_left
                            · intro w'
                              go_simp
                              with_reducible rfl
                            rotate_left
                            · simp only [Act.put, List.setIfInBounds_toArray, List.set_cons_zero, List.set_cons_succ, i64_w, i32_w]
                              rfl
                            refine pure_ (i := 16) (N := some 38) (v := ?_) (a' := ?_) #[true, true, true, true, true, true, true, true, true, true, true, true, true, false, true, true, true, false, false, false, false, false, false, false, false] rfl rfl (any_of HT_.out (by kernel_rfl)) (fun _ _ _ h => h) (Or.inl ⟨by rfl, ?_⟩) ?_ ?_
                            rotate_left
                            · intro w'
                              go_simp
                              with_reducible rfl
                            rotate_left
                            · simp only [Act.put, List.setIfInBounds_toArray, List.set_cons_zero, List.set_cons_succ, i64_w, i32_w]
                              rfl
                            refine take_ (i := 13) (N := some 35) (v := ?_) (a' := ?_) #[true, true, true, true, true, true, true, true, true, true, true, true, true, true, true, true, true, false, false, false, false, false, false, false, false] rfl rfl (take_ofW HT_.out HW_.out (by kernel_rfl)) (fun _ _ _ h => h) (Or.inl ⟨by rfl, ?_⟩) hHeld ?_ ?_
                            rotate_left
                            · rintro w' ⟨s0, s1, s2, s3, s4, s5, s6, s7, s8, s9, s10, s11, s12, s13, s14, s15⟩
                              go_simp
                              with_reducible rfl
                            rotate_left
                            · simp only [Act.put, List.setIfInBounds_toArray, List.set_cons_zero, List.set_cons_succ, i64_w, i32_w]
                              rfl
                            refine take_ (i := 17) (N := some 39) (v := ?_) (a' := ?_) #[true, true, true, true, true, true, true, true, true, true, true, true, true, true, true, true, true, true, false, false, false, false, false, false, false] rfl rfl (take_ofW HT_.out HW_.out (by kernel_rfl)) (fun _ _ _ h => h) (Or.inl ⟨by rfl, ?_⟩) hHeld ?_ ?_
                            rotate_left
                            · rintro w' ⟨s0, s1, s2, s3, s4, s5, s6, s7, s8, s9, s10, s11, s12, s13, s14, s15⟩
                              go_simp
                              with_reducible rfl
                            rotate_left
                            · simp only [Act.put, List.setIfInBounds_toArray, List.set_cons_zero, List.set_cons_succ, i64_w, i32_w]
                              rfl
                            refine pure_ (i := 18) (N := some 40) (v := ?_) (a' := ?_) #[true, true, true, true, true, true, true, true, true, true, true, true, true, true, true, true, true, true, true, false, false, false, false, false, false] rfl rfl (any_of HT_.out (by kernel_rfl)) (fun _ _ _ h => h) (Or.inl ⟨by rfl, ?_⟩) ?_ ?_
                            rotate_left
                            · intro w'
                              go_simp
                              with_reducible rfl
                            rotate_left
                            · simp only [Act.put, List.setIfInBounds_toArray, List.set_cons_zero, List.set_cons_succ, i64_w, i32_w]
                              rfl
                            refine pure_ (i := 19) (N := some 41) (v := ?_) (a' := ?_) #[true, true, true, true, true, true, true, true, true, true, true, true, true, true, true, true, true, true, true, true, false, false, false, false, false] rfl rfl (any_of HT_.out (by kernel_rfl)) (fun _ _ _ h => h) (Or.inl ⟨by rfl, ?_⟩) ?_ ?_
                            rotate_left
                            · intro w'
                              go_simp
                              with_reducible rfl
                            rotate_left
                            · simp only [Act.put, List.setIfInBounds_toArray, List.set_cons_zero, List.set_cons_succ, i64_w, i32_w]
                              rfl
                            refine pure_ (i := 20) (N := some 42) (v := undef) (a' := ?_) #[true, true, true, true, true, true, true, true, true, true, true, true, true, true, true, true, true, true, true, true, true, false, false, false, false] rfl rfl (any_of HT_.out (by kernel_rfl)) (fun _ _ _ h => h) (Or.inr ⟨by rfl, rfl⟩) ?_ ?_
                            rotate_left
                            · simp only [Act.put, List.setIfInBounds_toArray, List.set_cons_zero, List.set_cons_succ, i64_w, i32_w]
                              rfl
                            refine pure_ (i := 21) (N := some 43) (v := undef) (a' := ?_) #[true, true, true, true, true, true, true, true, true, true, true, true, true, true, true, true, true, true, true, true, true, true, false, false, false] rfl rfl (any_of HT_.out (by kernel_rfl)) (fun _ _ _ h => h) (Or.inr ⟨by rfl, rfl⟩) ?_ ?_
                            rotate_left
                            · simp only [Act.put, List.setIfInBounds_toArray, List.set_cons_zero, List.set_cons_succ, i64_w, i32_w]
                              rfl
                            refine pure_ (i := 22) (N := some 44) (v := undef) (a' := ?_) #[true, true, true, true, true, true, true, true, true, true, true, true, true, true, true, true, true, true, true, true, true, true, true, false, false] rfl rfl (any_of HT_.out (by kernel_rfl)) (fun _ _ _ h => h) (Or.inr ⟨by rfl, rfl⟩) ?_ ?_
                            rotate_left
                            · simp only [Act.put, List.setIfInBounds_toArray, List.set_cons_zero, List.set_cons_succ, i64_w, i32_w]
                              rfl
                            refine pure_ (i := 23) (N := some 45) (v := ?_) (a' := ?_) #[true, true, true, true, true, true, true, true, true, true, true, true, true, true, true, true, true, true, true, true, true, true, true, true, false] rfl rfl (any_of HT_.out (by kernel_rfl)) (fun _ _ _ h => h) (Or.inl ⟨by rfl, ?_⟩) ?_ ?_
                            rotate_left
                            · intro w'
                              go_simp
                              with_reducible rfl
                            rotate_left
                            · simp only [Act.put, List.setIfInBounds_toArray, List.set_cons_zero, List.set_cons_succ, i64_w, i32_w]
                              rfl
                            refine pure_ (i := 24) (N := some 46) (v := ?_) (a' := ?_) #[true, true, true, true, true, true, true, true, true, true, true, true, true, true, true, true, true, true, true, true, true, true, true, true, true] rfl rfl (any_of HT_.out (by kernel_rfl)) (fun _ _ _ h => h) (Or.inl ⟨by rfl, ?_⟩) ?_ ?_
                            rotate_left
                            · intro w'
                              go_simp
                              with_reducible rfl
                            rotate_left
                            · simp only [Act.put, List.setIfInBounds_toArray, List.set_cons_zero, List.set_cons_succ, i64_w, i32_w]
                              rfl
                            refine done_ (done_of HT_.out (by kernel_rfl)) ?_
                            try go_wp2
                            go_roundg k2
                            case measure => have := HK1.out; have := HK2.out; omega
                            case rel => exact ⟨(x5_2), (wrap64 (x6_2 + 1)), (by first | rfl | (simp; done) | (simp [*]; done)), (by first | rfl | (simp; done) | (simp [*]; done)), H', ⟨by have := HK1.out; have := HK2.out; omega⟩, ⟨by (with_reducible repeat (first | apply Kd.R_alloc | apply Kd.R_drewN | apply Kd.R_drew)); exact HO_3.out⟩, ⟨by repeat (first | (with_reducible first | exact HB.out | apply below_alloc | apply pw_below_drewN | apply below_drew1) | exact HB.out)⟩⟩
                      · rw [if_neg c10] at H
                        exact absurd H (by simp)
                    · rw [if_neg c9] at H
                      exact absurd H (by simp)
                  · rw [if_neg c8] at H
                    exact absurd H (by simp)
                · rw [if_neg c7] at H
                  have c7b0 : decide (x6_2 < (l0.length : Int)) = false := decide_eq_false c7
                  clear c7
                  by_cases c23 : 0 ≤ x4_1
                  · rw [if_pos c23] at H
                    have c23b0 : decide (0 ≤ x4_1) = true := decide_eq_true c23
                    clear c23
                    by_cases c24 : x4_1 < (l0.length : Int)
                    · rw [if_pos c24] at H
                      have c24b0 : decide (x4_1 < (l0.length : Int)) = true := decide_eq_true c24
                      clear c24
                      by_cases c25 : 0 ≤ x5_2
                      · rw [if_pos c25] at H
                        have c25b0 : decide (0 ≤ x5_2) = true := decide_eq_true c25
                        clear c25
                        by_cases c26 : x5_2 < (x3_1.length : Int)
                        · rw [if_pos c26] at H
                          have c26b0 : decide (x5_2 < (x3_1.length : Int)) = true := decide_eq_true c26
                          clear c26
                          obtain ⟨y427, hy427⟩ : ∃ y_ : List (S52), y_ = (x3_1.set (x5_2 : Int).toNat (⟨(rd_T52 l0 x4_1).f0, (rd_T52 l0 x4_1).f1, (rd_T52 l0 x4_1).f2, (rd_T52 l0 x4_1).f3⟩ : S52)) := ⟨_, rfl⟩
                          replace H : (tattleref03_Sort.l0 k2 l0 y427 (wrap64 (x4_1 + 1))) = some r := by first | (rw [hy427]; with_reducible exact H) | (have H2_ := (Option.bind_some _ _).symm.trans H; rw [hy427]; with_reducible exact H2_) | (have H2_ := (Option.bind_some _ _).symm.trans H; with_reducible exact H2_) | with_reducible exact H | (rw [hy427]; exact H) | exact H
                          have Ny427 := Aside0.mk hy427
                          clear hy427
                          have H' := Aside0.mk H
                          clear H
                          have p426 : 0 ≤ (x4_1 : Int) := of_decide_eq_true (by first | (with_reducible assumption) | assumption)
                          have q426 : x4_1 < (l0.length : Int) := of_decide_eq_true (by first | (with_reducible assumption) | assumption)
                          obtain ⟨ad426, e426, hx426_0, hx426_1, hx426_2, hx426_3⟩ := at_T52 HR0.out x4_1 p426 q426
                          cases e426
                          replace hx426_0 := (HB.out.cell (World.block_lt_of_cell? w _ hx426_0)).trans hx426_0
                          replace hx426_1 := (HB.out.cell (World.block_lt_of_cell? w _ hx426_1)).trans hx426_1
                          replace hx426_2 := (HB.out.cell (World.block_lt_of_cell? w _ hx426_2)).trans hx426_2
                          replace hx426_3 := (HB.out.cell (World.block_lt_of_cell? w _ hx426_3)).trans hx426_3
                          replace p426 := eq_true p426
                          replace q426 := eq_true q426
                          have p27 : 0 ≤ (x5_2 : Int) := of_decide_eq_true (by first | (with_reducible assumption) | assumption)
                          have q27 : (x5_2 : Int) < ((x3_1.length : Int) : Int) := of_decide_eq_true (by first | (with_reducible assumption) | assumption)
                          obtain ⟨go27, co27, eo27, gb27, gl27, cl27, HG27⟩ := Kd.R_form HO_3.out (by omega)
                          (first | cases eo27 | (injection eo27 with ea_ en_ ec_; (first | subst ea_ | (injection ea_ with ea_; subst ea_)); subst ec_; clear en_))
                          have GB27 := Aside0.mk gb27
                          have GG27 := Aside0.mk HG27
                          clear gb27 gl27 HG27
                          obtain ⟨ce27, hcl27, hM27, hcc27, hfr27⟩ := Kd.R_elem HO_3.out z52 (x5_2 : Int) p27 q27
                          obtain rfl := k52_openM hM27
                          have hx27_0 : wr.cell? ⟨go27, (x5_2 : Int).toNat * 4, none⟩ = some (.int .i64 ((rd_T52 x3_1 x5_2).f0)) := hcc27 0 _ rfl
                          have hx27_1 : wr.cell? ⟨go27, (x5_2 : Int).toNat * 4 + 1, none⟩ = some (.int .i64 ((rd_T52 x3_1 x5_2).f1)) := hcc27 1 _ rfl
                          have hx27_2 : wr.cell? ⟨go27, (x5_2 : Int).toNat * 4 + 2, none⟩ = some (.int .i64 ((rd_T52 x3_1 x5_2).f2)) := hcc27 2 _ rfl
                          have hx27_3 : wr.cell? ⟨go27, (x5_2 : Int).toNat * 4 + 3, none⟩ = some (.int .u64 ((rd_T52 x3_1 x5_2).f3)) := hcc27 3 _ rfl
                          have hf27_0 : wr.frozen? ⟨go27, (x5_2 : Int).toNat * 4, none⟩ = false := hfr27 0
                          have hf27_1 : wr.frozen? ⟨go27, (x5_2 : Int).toNat * 4 + 1, none⟩ = false := hfr27 1
                          have hf27_2 : wr.frozen? ⟨go27, (x5_2 : Int).toNat * 4 + 2, none⟩ = false := hfr27 2
                          have hf27_3 : wr.frozen? ⟨go27, (x5_2 : Int).toNat * 4 + 3, none⟩ = false := hfr27 3
                          clear hcl27 hcc27 hfr27 hM27
                          replace p27 := eq_true p27
                          replace q27 := eq_true q27
                          have HX28 := Aside0.mk (show Kd.R k52 52 wr w.heap.size (fun _ => True) (.slice (some ⟨go27, 0, none⟩) x3_1.length co27) x3_1 from (by (with_reducible repeat (first | apply Kd.R_alloc | apply Kd.R_drewN | apply Kd.R_drew)); exact HO_3.out))
                          obtain ⟨ce28, hcl28, hM28, hcc28, hfr28⟩ := Kd.R_elem HX28.out z52 (x5_2 : Int) (of_decide_eq_true (by first | (with_reducible assumption) | assumption)) (by have h_ : (x5_2 : Int) < ((x3_1.length : Int) : Int) := of_decide_eq_true (by first | (with_reducible assumption) | assumption); first | exact h_ | (have e_ := (Kd.R_reads' HO_3.out).1; omega) | simpa using h_)
                          obtain rfl := k52_openM hM28
                          have HP28 := Kd.R_seg HX28.out (x5_2 : Int) (of_decide_eq_true (by first | (with_reducible assumption) | assumption)) (by have h_ : (x5_2 : Int) < ((x3_1.length : Int) : Int) := of_decide_eq_true (by first | (with_reducible assumption) | assumption); first | exact h_ | (have e_ := (Kd.R_reads' HO_3.out).1; omega) | simpa using h_) (seg := [.int .i64 ((rd_T52 l0 x4_1).f0), .int .i64 ((rd_T52 l0 x4_1).f1), .int .i64 ((rd_T52 l0 x4_1).f2), .int .u64 ((rd_T52 l0 x4_1).f3)]) (j := 0) hcl28 hcc28 (show 4 ≤ 4 from by decide) (x' := (⟨(rd_T52 l0 x4_1).f0, (rd_T52 l0 x4_1).f1, (rd_T52 l0 x4_1).f2, (rd_T52 l0 x4_1).f3⟩ : S52)) (k52_mkM _ _ _ (⟨(rd_T52 l0 x4_1).f0, (rd_T52 l0 x4_1).f1, (rd_T52 l0 x4_1).f2, (rd_T52 l0 x4_1).f3⟩ : S52) ) (fun _ hk => hk)
                          have hx28_0 := hcc28 0 _ rfl
                          (try simp only [show (k52).sz = 4 from rfl, Nat.mul_one, Nat.add_zero] at hx28_0)
                          have hf28_0 := hfr28 0
                          (try simp only [show (k52).sz = 4 from rfl, Nat.mul_one, Nat.add_zero] at hf28_0)
                          have hx28_1 := hcc28 1 _ rfl
                          (try simp only [show (k52).sz = 4 from rfl, Nat.mul_one, Nat.add_zero] at hx28_1)
                          have hf28_1 := hfr28 1
                          (try simp only [show (k52).sz = 4 from rfl, Nat.mul_one, Nat.add_zero] at hf28_1)
                          have hx28_2 := hcc28 2 _ rfl
                          (try simp only [show (k52).sz = 4 from rfl, Nat.mul_one, Nat.add_zero] at hx28_2)
                          have hf28_2 := hfr28 2
                          (try simp only [show (k52).sz = 4 from rfl, Nat.mul_one, Nat.add_zero] at hf28_2)
                          have hx28_3 := hcc28 3 _ rfl
                          (try simp only [show (k52).sz = 4 from rfl, Nat.mul_one, Nat.add_zero] at hx28_3)
                          have hf28_3 := hfr28 3
                          (try simp only [show (k52).sz = 4 from rfl, Nat.mul_one, Nat.add_zero] at hf28_3)
                          clear hcl28 hcc28 hfr28 hM28
                          go_wp2_with (first | ((with_reducible refine gate_store (t := 52) (p := 55) rfl ?_); refine store_event (t := 52) (p := 55) (v := ?vo_w29) (w1 := ((((wr.setCell ⟨go27, (x5_2 : Int).toNat * 4, none⟩ (.int .i64 ((rd_T52 l0 x4_1).f0))).setCell ⟨go27, (x5_2 : Int).toNat * 4 + 1, none⟩ (.int .i64 ((rd_T52 l0 x4_1).f1))).setCell ⟨go27, (x5_2 : Int).toNat * 4 + 2, none⟩ (.int .i64 ((rd_T52 l0 x4_1).f2))).setCell ⟨go27, (x5_2 : Int).toNat * 4 + 3, none⟩ (.int .u64 ((rd_T52 l0 x4_1).f3)))) ?hg ?ho ?hn ?hr ?_; (case ho => rfl); (case hg => rfl); (case hn => rfl); (case hr => first | (go_simp; done) | (go_simp; rfl)); intro w29 hw; have hg : wr.grownBy w29 (some go27) := (by rw [hw]; exact HP28.2); have hp_ : Kd.R k52 52 w29 w.heap.size (fun _ => True) (.slice (some ⟨go27, 0, none⟩) x3_1.length co27) y427 := (by rw [hw, Ny427.out]; exact HP28.1); clear HP28; have n0_ := Aside0.mk (hp_); have n1_ := Aside0.mk ((by rw [hw]; exact below_set (below_set (below_set (below_set (HB.out) GB27.out) GB27.out) GB27.out) GB27.out : Below w.heap.size w w29)); clear HO_3; clear HB; have HO_3 := n0_; have HB := n1_; clear n0_ n1_; clear hg hw hp_))
                          go_roundg k2
                          case measure => have := HK1.out; have := HK2.out; omega
                          case rel => exact ⟨(y427), (wrap64 (x4_1 + 1)), (by first | rfl | (simp; done) | (simp [*]; done)), H', ⟨by have := HK1.out; have := HK2.out; omega⟩, ⟨by (with_reducible repeat (first | apply Kd.R_alloc | apply Kd.R_drewN | apply Kd.R_drew)); exact HO_3.out⟩, ⟨by repeat (first | (with_reducible first | exact HB.out | apply below_alloc | apply pw_below_drewN | apply below_drew1) | exact HB.out)⟩⟩
                        · rw [if_neg c26] at H
                          exact absurd H (by simp)
                      · rw [if_neg c25] at H
                        exact absurd H (by simp)
                    · rw [if_neg c24] at H
                      exact absurd H (by simp)
                  · rw [if_neg c23] at H
                    exact absurd H (by simp)
          · rw [if_neg c6] at H
            have c6b0 : decide (x4_1 < (l0.length : Int)) = false := decide_eq_false c6
            clear c6
            obtain rfl := Option.some.inj H
            go_wp2
            go_ret
            exact ⟨_, by first | rfl | (simp [errW_none, errW_some] <;> rfl) | (simp [*, errW_none, errW_some] <;> rfl), by (with_reducible repeat (first | apply Kd.R_alloc | apply Kd.R_drewN | apply Kd.R_drew)); exact HO_3.out, by repeat (first | (with_reducible first | exact HB.out | apply below_alloc | apply pw_below_drewN | apply below_drew1) | exact HB.out)⟩
    · rw [if_neg c3] at H
      exact absurd H (by simp)
  · rw [if_neg c2] at H
    exact absurd H (by simp)

end Go.Proofs.Ytahppppkepcbkaa.Fn
