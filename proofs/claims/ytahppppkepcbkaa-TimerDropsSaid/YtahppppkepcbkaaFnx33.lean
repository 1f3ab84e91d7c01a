-- Written by program (a turned copy of the kit's print) for this seat: functions, contracts. Lean checks it.
import Derived.Test.YtahppppkepcbkaaFnx0
namespace Go.Proofs.Ytahppppkepcbkaa.Fn
open Go.RowKit Go.Proofs.YtahppppkepcbkaaW.PrintWords Go.Proofs.YtahppppkepcbkaaW.PrintLast Go.Proofs.YtahppppkepcbkaaW.PrintMore
attribute [local go_sem] max2_int min2_int max_two min_two max_three min_three max_four min_four   -- for this text's walks alone
set_option linter.unusedVariables false
set_option linter.unusedSimpArgs false

/-! ### tattleref03_Drop: function 40 -/
def tattleref03_Drop.l0 : Nat → List (S52) → Int → Int → List (S52) → Int → Option ((List (S52)))
  | 0, _, _, _, _, _ => none
  | k + 1, x0, x1, x2, x7, x8 => if x8 < (x0.length : Int) then (if 0 ≤ x8 then (if ((rd_T52 x0 x8).f1) = x1 then (if ((rd_T52 x0 x8).f2) = x2 then (tattleref03_Drop.l0 k x0 x1 x2 x7 (wrap64 (x8 + 1))) else (if x7.length < 4398046511104 then (tattleref03_Drop.l0 k x0 x1 x2 (x7 ++ [(⟨(rd_T52 x0 x8).f0, (rd_T52 x0 x8).f1, (rd_T52 x0 x8).f2, (rd_T52 x0 x8).f3⟩ : S52)]) (wrap64 (x8 + 1))) else (none))) else (if x7.length < 4398046511104 then (tattleref03_Drop.l0 k x0 x1 x2 (x7 ++ [(⟨(rd_T52 x0 x8).f0, (rd_T52 x0 x8).f1, (rd_T52 x0 x8).f2, (rd_T52 x0 x8).f3⟩ : S52)]) (wrap64 (x8 + 1))) else (none))) else (none)) else (some x7)
def tattleref03_Drop.f (k : Nat) (l0 : List (S52)) (a1 : Int) (a2 : Int) : Option ((List (S52))) := tattleref03_Drop.l0 k l0 a1 a2 ([] : List (S52)) 0
theorem tattleref03_Drop.mono_l : ∀ k, (∀ y0 y1 y2 y3 y4, LeO (tattleref03_Drop.l0 k y0 y1 y2 y3 y4) (tattleref03_Drop.l0 (k + 1) y0 y1 y2 y3 y4))
  | 0 => fun _ _ _ _ _ r h => by simp [tattleref03_Drop.l0] at h
  | k + 1 => by
    have ih0 := tattleref03_Drop.mono_l k
    · intro y0 y1 y2 y3 y4
      unfold tattleref03_Drop.l0
      repeat' first
      | (with_reducible exact ih0 _ _ _ _ _)
      | (with_reducible exact LeO.refl _)
      | (with_reducible exact LeO.none _)
      | (with_reducible refine LeO.ite ?_ ?_)
      | (with_reducible refine LeO.bind ?_ (fun _ => ?_))
      | exact ih0 _ _ _ _ _
      | exact LeO.none _
      | refine LeO.ite ?_ ?_
      | refine LeO.bind ?_ (fun _ => ?_)
theorem tattleref03_Drop.mono : ∀ a0 a1 a2 k, LeO (tattleref03_Drop.f k a0 a1 a2) (tattleref03_Drop.f (k + 1) a0 a1 a2) := by
  intro a0 a1 a2 k
  have ih0 := tattleref03_Drop.mono_l k
  unfold tattleref03_Drop.f
  repeat' first
      | (with_reducible exact ih0 _ _ _ _ _)
      | (with_reducible exact LeO.refl _)
      | (with_reducible exact LeO.none _)
      | (with_reducible refine LeO.ite ?_ ?_)
      | (with_reducible refine LeO.bind ?_ (fun _ => ?_))
      | exact ih0 _ _ _ _ _
      | exact LeO.none _
      | refine LeO.ite ?_ ?_
      | refine LeO.bind ?_ (fun _ => ?_)
set_option maxHeartbeats 8000000 in
set_option maxRecDepth 100000 in
theorem tattleref03_Drop.calls (k : Nat) (A0 : Option Addr) (c0 : Nat) (l0 : List (S52)) (a1 : Int) (a2 : Int) (r : List (S52)) (w : World) (hr0 : Kd.C k52 w A0 l0.length l0) (hc0 : l0.length ≤ c0) (h : tattleref03_Drop.f k l0 a1 a2 = some r) :
    Calls Try.prog 40 #[.slice A0 l0.length c0, .int .i64 a1, .int .i64 a2] w fun e w' => ∃ v0_ : Value, e = .returned (v0_) ∧ Kd.R k52 52 w' w.heap.size (fun _ => True) v0_ r ∧ Below w.heap.size w w' := by
  have hu52 := Try.underlying52
  have HR0 := Aside0.mk hr0
  have HC0 := Aside0.mk hc0
  clear hr0 hc0
  have HB := Aside0.mk (Below.refl w.heap.size w)
  have H : (tattleref03_Drop.l0 k l0 a1 a2 ([] : List (S52)) 0) = some r := h
  clear h
  have H' := Aside0.mk H
  clear H
  go_enter Try.func40, Try.ntmps40
  go_wp2
  go_loopg [7, 8] k (fun kq v7 v8 w' => ∃ (x7_1 : List (S52)) (x8_1 : Int), v8 = .int .i64 x8_1 ∧ Aside0 (tattleref03_Drop.l0 kq l0 a1 a2 x7_1 x8_1 = some r) ∧ Aside0 (kq ≤ k) ∧ Aside0 (Kd.R k52 52 w' w.heap.size (fun _ => True) v7 x7_1) ∧ Aside0 (Below w.heap.size w w'))
  case atStart => exact ⟨(([] : List (S52))), (0), (by first | rfl | (simp; done) | (simp [*]; done)), H', ⟨Nat.le_refl _⟩, ⟨by first | exact Kd.R_nil _ _ _ _ _ | exact Kd.N_nil _ _ _ _ _ | exact Kd.V_nil _ _ _ _ _ | exact Kd.Q_nil _ _ _ _ _ | exact Kd.S_nil _ _ _ _ _⟩, ⟨by repeat (first | (with_reducible first | exact HB.out | apply below_alloc | apply pw_below_drewN | apply below_drew1) | exact HB.out)⟩⟩
  case round =>
    clear H'
    try clear p2
    obtain ⟨x7_1, x8_1, rfl, HA, HK1, HO_7, HB⟩ := hrel
    cases gk with
    | zero => exact absurd HA.out (by simp [tattleref03_Drop.l0])
    | succ k1 =>
      have H := HA.out
      clear HA
      simp only [tattleref03_Drop.l0] at H
      by_cases c4 : x8_1 < (l0.length : Int)
      · rw [if_pos c4] at H
        have c4b0 : decide (x8_1 < (l0.length : Int)) = true := decide_eq_true c4
        clear c4
        by_cases c5 : 0 ≤ x8_1
        · rw [if_pos c5] at H
          have c5b0 : decide (0 ≤ x8_1) = true := decide_eq_true c5
          clear c5
          by_cases c6 : ((rd_T52 l0 x8_1).f1) = a1
          · rw [if_pos c6] at H
            have c6b0 : (((rd_T52 l0 x8_1).f1) == a1) = true := beq_iff_eq.mpr c6
            have c6b1 : (((rd_T52 l0 x8_1).f1) != a1) = false := bne_eq_false_iff_eq.mpr c6
            clear c6
            by_cases c7 : ((rd_T52 l0 x8_1).f2) = a2
            · rw [if_pos c7] at H
              have c7b0 : (((rd_T52 l0 x8_1).f2) == a2) = true := beq_iff_eq.mpr c7
              have c7b1 : (((rd_T52 l0 x8_1).f2) != a2) = false := bne_eq_false_iff_eq.mpr c7
              clear c7
              have H' := Aside0.mk H
              clear H
              have p526 : 0 ≤ (x8_1 : Int) := of_decide_eq_true (by first | (with_reducible assumption) | assumption)
              have q526 : x8_1 < (l0.length : Int) := of_decide_eq_true (by first | (with_reducible assumption) | assumption)
              obtain ⟨ad526, e526, hx526_0, hx526_1, hx526_2, hx526_3⟩ := at_T52 HR0.out x8_1 p526 q526
              cases e526
              replace hx526_0 := (HB.out.cell (World.block_lt_of_cell? w _ hx526_0)).trans hx526_0
              replace hx526_1 := (HB.out.cell (World.block_lt_of_cell? w _ hx526_1)).trans hx526_1
              replace hx526_2 := (HB.out.cell (World.block_lt_of_cell? w _ hx526_2)).trans hx526_2
              replace hx526_3 := (HB.out.cell (World.block_lt_of_cell? w _ hx526_3)).trans hx526_3
              replace p526 := eq_true p526
              replace q526 := eq_true q526
              have p527 : 0 ≤ (x8_1 : Int) := of_decide_eq_true (by first | (with_reducible assumption) | assumption)
              have q527 : x8_1 < (l0.length : Int) := of_decide_eq_true (by first | (with_reducible assumption) | assumption)
              obtain ⟨ad527, e527, hx527_0, hx527_1, hx527_2, hx527_3⟩ := at_T52 HR0.out x8_1 p527 q527
              obtain rfl : ad526 = ad527 := (by injection e527)
              replace hx527_0 := (HB.out.cell (World.block_lt_of_cell? w _ hx527_0)).trans hx527_0
              replace hx527_1 := (HB.out.cell (World.block_lt_of_cell? w _ hx527_1)).trans hx527_1
              replace hx527_2 := (HB.out.cell (World.block_lt_of_cell? w _ hx527_2)).trans hx527_2
              replace hx527_3 := (HB.out.cell (World.block_lt_of_cell? w _ hx527_3)).trans hx527_3
              replace p527 := eq_true p527
              replace q527 := eq_true q527
              go_wp2
              go_roundg k1
              case measure => have := HK1.out; omega
              case rel => exact ⟨(x7_1), (wrap64 (x8_1 + 1)), (by first | rfl | (simp; done) | (simp [*]; done)), H', ⟨by have := HK1.out; omega⟩, ⟨by (with_reducible repeat (first | apply Kd.R_alloc | apply Kd.R_drewN | apply Kd.R_drew)); exact HO_7.out⟩, ⟨by repeat (first | (with_reducible first | exact HB.out | apply below_alloc | apply pw_below_drewN | apply below_drew1) | exact HB.out)⟩⟩
            · rw [if_neg c7] at H
              have c7b0 : (((rd_T52 l0 x8_1).f2) == a2) = false := beq_eq_false_iff_ne.mpr c7
              have c7b1 : (((rd_T52 l0 x8_1).f2) != a2) = true := bne_iff_ne.mpr c7
              by_cases c8 : x7_1.length < 4398046511104
              · rw [if_pos c8] at H
                have LMc8 := Aside0.mk c8
                clear c8
                obtain ⟨y529, hy529⟩ : ∃ y_ : List (S52), y_ = (x7_1 ++ [(⟨(rd_T52 l0 x8_1).f0, (rd_T52 l0 x8_1).f1, (rd_T52 l0 x8_1).f2, (rd_T52 l0 x8_1).f3⟩ : S52)]) := ⟨_, rfl⟩
                replace H : (tattleref03_Drop.l0 k1 l0 a1 a2 y529 (wrap64 (x8_1 + 1))) = some r := by first | (rw [hy529]; with_reducible exact H) | (have H2_ := (Option.bind_some _ _).symm.trans H; rw [hy529]; with_reducible exact H2_) | (have H2_ := (Option.bind_some _ _).symm.trans H; with_reducible exact H2_) | with_reducible exact H | (rw [hy529]; exact H) | exact H
                have Ny529 := Aside0.mk hy529
                clear hy529
                have H' := Aside0.mk H
                clear H
                have p526 : 0 ≤ (x8_1 : Int) := of_decide_eq_true (by first | (with_reducible assumption) | assumption)
                have q526 : x8_1 < (l0.length : Int) := of_decide_eq_true (by first | (with_reducible assumption) | assumption)
                obtain ⟨ad526, e526, hx526_0, hx526_1, hx526_2, hx526_3⟩ := at_T52 HR0.out x8_1 p526 q526
                cases e526
                replace hx526_0 := (HB.out.cell (World.block_lt_of_cell? w _ hx526_0)).trans hx526_0
                replace hx526_1 := (HB.out.cell (World.block_lt_of_cell? w _ hx526_1)).trans hx526_1
                replace hx526_2 := (HB.out.cell (World.block_lt_of_cell? w _ hx526_2)).trans hx526_2
                replace hx526_3 := (HB.out.cell (World.block_lt_of_cell? w _ hx526_3)).trans hx526_3
                replace p526 := eq_true p526
                replace q526 := eq_true q526
                have p527 : 0 ≤ (x8_1 : Int) := of_decide_eq_true (by first | (with_reducible assumption) | assumption)
                have q527 : x8_1 < (l0.length : Int) := of_decide_eq_true (by first | (with_reducible assumption) | assumption)
                obtain ⟨ad527, e527, hx527_0, hx527_1, hx527_2, hx527_3⟩ := at_T52 HR0.out x8_1 p527 q527
                obtain rfl : ad526 = ad527 := (by injection e527)
                replace hx527_0 := (HB.out.cell (World.block_lt_of_cell? w _ hx527_0)).trans hx527_0
                replace hx527_1 := (HB.out.cell (World.block_lt_of_cell? w _ hx527_1)).trans hx527_1
                replace hx527_2 := (HB.out.cell (World.block_lt_of_cell? w _ hx527_2)).trans hx527_2
                replace hx527_3 := (HB.out.cell (World.block_lt_of_cell? w _ hx527_3)).trans hx527_3
                replace p527 := eq_true p527
                replace q527 := eq_true q527
                have p528 : 0 ≤ (x8_1 : Int) := of_decide_eq_true (by first | (with_reducible assumption) | assumption)
                have q528 : x8_1 < (l0.length : Int) := of_decide_eq_true (by first | (with_reducible assumption) | assumption)
                obtain ⟨ad528, e528, hx528_0, hx528_1, hx528_2, hx528_3⟩ := at_T52 HR0.out x8_1 p528 q528
                obtain rfl : ad526 = ad528 := (by injection e528)
                replace hx528_0 := (HB.out.cell (World.block_lt_of_cell? w _ hx528_0)).trans hx528_0
                replace hx528_1 := (HB.out.cell (World.block_lt_of_cell? w _ hx528_1)).trans hx528_1
                replace hx528_2 := (HB.out.cell (World.block_lt_of_cell? w _ hx528_2)).trans hx528_2
                replace hx528_3 := (HB.out.cell (World.block_lt_of_cell? w _ hx528_3)).trans hx528_3
                replace p528 := eq_true p528
                replace q528 := eq_true q528
                go_wp2_with (first | ((with_reducible refine gate_builtin (b := .append) (xs := #[.tmp 31, .tmp 36]) rfl ?_); at_builtin; refine Kd.R_append k52 (w0 := w) w.heap.size rfl (.tmp 31) (.tmp 36) 54 52 (.agg #[(.int .i64 0), (.int .i64 0), (.int .i64 0), (.int .u64 0)]) 32 rfl Try.underlying54 info52 rfl (by decide) (by omega) u7 x7_1 (⟨(rd_T52 l0 x8_1).f0, (rd_T52 l0 x8_1).f1, (rd_T52 l0 x8_1).f2, (rd_T52 l0 x8_1).f3⟩ : S52) [.int .i64 ((rd_T52 l0 x8_1).f0), .int .i64 ((rd_T52 l0 x8_1).f1), .int .i64 ((rd_T52 l0 x8_1).f2), .int .u64 ((rd_T52 l0 x8_1).f3)] (fun _ => True) (fun _ => False) rfl rfl ?aP (fun _ hk => hk.elim) ?aF ?aO ?aB ?aS ?aL ?_; (case aP => exact k52_mkM _ _ _ (⟨(rd_T52 l0 x8_1).f0, (rd_T52 l0 x8_1).f1, (rd_T52 l0 x8_1).f2, (rd_T52 l0 x8_1).f3⟩ : S52)); (case aB => exact (by repeat (first | (with_reducible first | exact HB.out | apply below_alloc | apply pw_below_drewN | apply below_drew1) | exact HB.out))); (case aF => exact (fun _ _ => trivial)); (case aO => exact (by (with_reducible repeat (first | apply Kd.R_alloc | apply Kd.R_drewN | apply Kd.R_drew)); exact HO_7.out)); (case aS => exact (below_size (by repeat (first | (with_reducible first | exact HB.out | apply below_alloc | apply pw_below_drewN | apply below_drew1) | exact HB.out)))); (case aL => have := LMc8.out; omega); intro v530 w9 ho hb hg hat; rw [← Ny529.out] at ho; have n0_ := Aside0.mk (hb); have n1_ := Aside0.mk (ho); clear HB; clear HO_7; have HB := n0_; have HO531 := n1_; clear n0_ n1_; clear ho hb hg hat))
                go_roundg k1
                case measure => have := HK1.out; omega
                case rel => exact ⟨(y529), (wrap64 (x8_1 + 1)), (by first | rfl | (simp; done) | (simp [*]; done)), H', ⟨by have := HK1.out; omega⟩, ⟨by (with_reducible repeat (first | apply Kd.R_alloc | apply Kd.R_drewN | apply Kd.R_drew)); exact HO531.out⟩, ⟨by repeat (first | (with_reducible first | exact HB.out | apply below_alloc | apply pw_below_drewN | apply below_drew1) | exact HB.out)⟩⟩
              · rw [if_neg c8] at H
                exact absurd H (by simp)
          · rw [if_neg c6] at H
            have c6b0 : (((rd_T52 l0 x8_1).f1) == a1) = false := beq_eq_false_iff_ne.mpr c6
            have c6b1 : (((rd_T52 l0 x8_1).f1) != a1) = true := bne_iff_ne.mpr c6
            by_cases c10 : x7_1.length < 4398046511104
            · rw [if_pos c10] at H
              have LMc10 := Aside0.mk c10
              clear c10
              obtain ⟨y533, hy533⟩ : ∃ y_ : List (S52), y_ = (x7_1 ++ [(⟨(rd_T52 l0 x8_1).f0, (rd_T52 l0 x8_1).f1, (rd_T52 l0 x8_1).f2, (rd_T52 l0 x8_1).f3⟩ : S52)]) := ⟨_, rfl⟩
              replace H : (tattleref03_Drop.l0 k1 l0 a1 a2 y533 (wrap64 (x8_1 + 1))) = some r := by first | (rw [hy533]; with_reducible exact H) | (have H2_ := (Option.bind_some _ _).symm.trans H; rw [hy533]; with_reducible exact H2_) | (have H2_ := (Option.bind_some _ _).symm.trans H; with_reducible exact H2_) | with_reducible exact H | (rw [hy533]; exact H) | exact H
              have Ny533 := Aside0.mk hy533
              clear hy533
              have H' := Aside0.mk H
              clear H
              have p526 : 0 ≤ (x8_1 : Int) := of_decide_eq_true (by first | (with_reducible assumption) | assumption)
              have q526 : x8_1 < (l0.length : Int) := of_decide_eq_true (by first | (with_reducible assumption) | assumption)
              obtain ⟨ad526, e526, hx526_0, hx526_1, hx526_2, hx526_3⟩ := at_T52 HR0.out x8_1 p526 q526
              cases e526
              replace hx526_0 := (HB.out.cell (World.block_lt_of_cell? w _ hx526_0)).trans hx526_0
              replace hx526_1 := (HB.out.cell (World.block_lt_of_cell? w _ hx526_1)).trans hx526_1
              replace hx526_2 := (HB.out.cell (World.block_lt_of_cell? w _ hx526_2)).trans hx526_2
              replace hx526_3 := (HB.out.cell (World.block_lt_of_cell? w _ hx526_3)).trans hx526_3
              replace p526 := eq_true p526
              replace q526 := eq_true q526
              have p532 : 0 ≤ (x8_1 : Int) := of_decide_eq_true (by first | (with_reducible assumption) | assumption)
              have q532 : x8_1 < (l0.length : Int) := of_decide_eq_true (by first | (with_reducible assumption) | assumption)
              obtain ⟨ad532, e532, hx532_0, hx532_1, hx532_2, hx532_3⟩ := at_T52 HR0.out x8_1 p532 q532
              obtain rfl : ad526 = ad532 := (by injection e532)
              replace hx532_0 := (HB.out.cell (World.block_lt_of_cell? w _ hx532_0)).trans hx532_0
              replace hx532_1 := (HB.out.cell (World.block_lt_of_cell? w _ hx532_1)).trans hx532_1
              replace hx532_2 := (HB.out.cell (World.block_lt_of_cell? w _ hx532_2)).trans hx532_2
              replace hx532_3 := (HB.out.cell (World.block_lt_of_cell? w _ hx532_3)).trans hx532_3
              replace p532 := eq_true p532
              replace q532 := eq_true q532
              go_wp2_with (first | ((with_reducible refine gate_builtin (b := .append) (xs := #[.tmp 31, .tmp 36]) rfl ?_); at_builtin; refine Kd.R_append k52 (w0 := w) w.heap.size rfl (.tmp 31) (.tmp 36) 54 52 (.agg #[(.int .i64 0), (.int .i64 0), (.int .i64 0), (.int .u64 0)]) 32 rfl Try.underlying54 info52 rfl (by decide) (by omega) u7 x7_1 (⟨(rd_T52 l0 x8_1).f0, (rd_T52 l0 x8_1).f1, (rd_T52 l0 x8_1).f2, (rd_T52 l0 x8_1).f3⟩ : S52) [.int .i64 ((rd_T52 l0 x8_1).f0), .int .i64 ((rd_T52 l0 x8_1).f1), .int .i64 ((rd_T52 l0 x8_1).f2), .int .u64 ((rd_T52 l0 x8_1).f3)] (fun _ => True) (fun _ => False) rfl rfl ?aP (fun _ hk => hk.elim) ?aF ?aO ?aB ?aS ?aL ?_; (case aP => exact k52_mkM _ _ _ (⟨(rd_T52 l0 x8_1).f0, (rd_T52 l0 x8_1).f1, (rd_T52 l0 x8_1).f2, (rd_T52 l0 x8_1).f3⟩ : S52)); (case aB => exact (by repeat (first | (with_reducible first | exact HB.out | apply below_alloc | apply pw_below_drewN | apply below_drew1) | exact HB.out))); (case aF => exact (fun _ _ => trivial)); (case aO => exact (by (with_reducible repeat (first | apply Kd.R_alloc | apply Kd.R_drewN | apply Kd.R_drew)); exact HO_7.out)); (case aS => exact (below_size (by repeat (first | (with_reducible first | exact HB.out | apply below_alloc | apply pw_below_drewN | apply below_drew1) | exact HB.out)))); (case aL => have := LMc10.out; omega); intro v534 w11 ho hb hg hat; rw [← Ny533.out] at ho; have n0_ := Aside0.mk (hb); have n1_ := Aside0.mk (ho); clear HB; clear HO_7; have HB := n0_; have HO535 := n1_; clear n0_ n1_; clear ho hb hg hat))
              go_roundg k1
              case measure => have := HK1.out; omega
              case rel => exact ⟨(y533), (wrap64 (x8_1 + 1)), (by first | rfl | (simp; done) | (simp [*]; done)), H', ⟨by have := HK1.out; omega⟩, ⟨by (with_reducible repeat (first | apply Kd.R_alloc | apply Kd.R_drewN | apply Kd.R_drew)); exact HO535.out⟩, ⟨by repeat (first | (with_reducible first | exact HB.out | apply below_alloc | apply pw_below_drewN | apply below_drew1) | exact HB.out)⟩⟩
            · rw [if_neg c10] at H
              exact absurd H (by simp)
        · rw [if_neg c5] at H
          exact absurd H (by simp)
      · rw [if_neg c4] at H
        have c4b0 : decide (x8_1 < (l0.length : Int)) = false := decide_eq_false c4
        clear c4
        obtain rfl := Option.some.inj H
        go_wp2
        go_ret
        exact ⟨_, by first | rfl | (simp [errW_none, errW_some] <;> rfl) | (simp [*, errW_none, errW_some] <;> rfl), by (with_reducible repeat (first | apply Kd.R_alloc | apply Kd.R_drewN | apply Kd.R_drew)); exact HO_7.out, by repeat (first | (with_reducible first | exact HB.out | apply below_alloc | apply pw_below_drewN | apply below_drew1) | exact HB.out)⟩

end Go.Proofs.Ytahppppkepcbkaa.Fn
