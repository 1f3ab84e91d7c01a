-- Written by program (a turned copy of the kit's print) for this seat: functions, contracts. Lean checks it.
import Derived.Test.YtjamociekniepaaFnx0
import Derived.Test.YtjamociekniepaaFnx2
namespace Go.Proofs.Ytjamociekniepaa.Fn
open Go.RowKit Go.Proofs.YtjamociekniepaaW.PrintWords Go.Proofs.YtjamociekniepaaW.PrintLast Go.Proofs.YtjamociekniepaaW.PrintMore
attribute [local go_sem] max2_int min2_int max_two min_two max_three min_three max_four min_four   -- for this text's walks alone
set_option linter.unusedVariables false
set_option linter.unusedSimpArgs false

/-! ### tattlelaw06_Few: function 26 -/
def tattlelaw06_Few.f (l0 : List (S26)) : Option ((List (S26))) := if (l0.length : Int) > 65 then (if 65 ≤ (l0.length : Int) then (some (l0.take 65)) else (none)) else (some l0)
set_option maxHeartbeats 8000000 in
set_option maxRecDepth 100000 in
theorem tattlelaw06_Few.calls (P0_ : Nat → Prop) (A0 : Option Addr) (c0 : Nat) (l0 : List (S26)) (r : List (S26)) (w : World) (hs0 : Kd.V k26 26 w w.heap.size (fun k_ => P0_ k_) (.slice A0 l0.length c0) l0) (h : tattlelaw06_Few.f l0 = some r) :
    Calls Try.prog 26 #[.slice A0 l0.length c0] w fun e w' => ∃ v0_ : Value, e = .returned (v0_) ∧ Kd.V k26 26 w' w.heap.size (fun k_ => (P0_ k_ ∨ w.heap.size ≤ k_)) v0_ r ∧ Below w.heap.size w w' := by
  have HO0 := Aside0.mk (show Kd.V k26 26 w w.heap.size (fun k_ => (P0_ k_ ∨ w.heap.size ≤ k_)) (.slice A0 l0.length c0) l0 from Kd.V_mono hs0 (fun k_ hk => .inl hk))
  have HB := Aside0.mk (Below.refl w.heap.size w)
  have H : (if (l0.length : Int) > 65 then (if 65 ≤ (l0.length : Int) then (some (l0.take 65)) else (none)) else (some l0)) = some r := h
  clear h
  by_cases c2 : (l0.length : Int) > 65
  · rw [if_pos c2] at H
    have c2b0 : decide (65 < (l0.length : Int)) = true := decide_eq_true c2
    have c2b1 : decide (65 < l0.length) = true := decide_eq_true (by omega)
    clear c2
    by_cases c3 : 65 ≤ (l0.length : Int)
    · rw [if_pos c3] at H
      have c3b0 := eq_true c3
      have c3b1 : decide (65 ≤ (l0.length : Int)) = true := decide_eq_true c3
      clear c3
      obtain ⟨y296, hy296⟩ : ∃ y_ : List (S26), y_ = (l0.take 65) := ⟨_, rfl⟩
      replace H : (some y296) = some r := by first | (rw [hy296]; with_reducible exact H) | (have H2_ := (Option.bind_some _ _).symm.trans H; rw [hy296]; with_reducible exact H2_) | (have H2_ := (Option.bind_some _ _).symm.trans H; with_reducible exact H2_) | with_reducible exact H | (rw [hy296]; exact H) | exact H
      have Ny296 := Aside0.mk hy296
      clear hy296
      obtain rfl := Option.some.inj H
      have q4 : (65 : Int) ≤ ((l0.length : Int) : Int) := of_decide_eq_true (by first | (with_reducible assumption) | assumption)
      obtain ⟨i04, hi04, _, hsz4, _⟩ := info_parts info26
      have hroom4 : l0.length ≤ c0 := (Kd.V_reads' HO0.out).2.1
      have hC4 : Kd.F k26 _ _ A0 l0.length l0 := (Kd.V_at (base := w.heap.size) HO0.out).2.2
      have hcut4 := cut_to (P := Try.prog) 22 26 .i64 Try.underlying22 hi04 A0 l0.length c0 65 (by omega) q4 hroom4
      have hr4 := Kd.F_take (m := 65) hC4 (by omega)
      have hy4 : y296.length = (65 : Int).toNat := (by rw [Ny296.out, List.length_take]; omega)
      rw [← Ny296.out] at hr4
      rw [← hy4] at hcut4
      have HO300 := Aside0.mk (show Kd.V k26 26 _ w.heap.size _ (.slice A0 y296.length c0) y296 from Kd.V_mk (by omega) hr4)
      have HC300 := Aside0.mk (show y296.length ≤ c0 from by omega)
      clear hr4 hC4 hroom4 hi04 hsz4
      have KY4 := Aside0.mk hy4
      clear hy4
      replace q4 := eq_true q4
      go_enter Try.func26, Try.ntmps26
      go_wp2
      go_ret
      exact ⟨_, by first | rfl | (simp [errW_none, errW_some] <;> rfl) | (simp [*, errW_none, errW_some] <;> rfl), by (with_reducible repeat (first | apply Kd.V_alloc | apply Kd.V_drewN | apply Kd.V_drew)); exact HO300.out, by repeat (first | (with_reducible first | exact HB.out | apply below_alloc | apply pw_below_drewN | apply below_drew1) | exact HB.out)⟩
    · rw [if_neg c3] at H
      exact absurd H (by simp)
  · rw [if_neg c2] at H
    have c2b0 : decide (65 < (l0.length : Int)) = false := decide_eq_false c2
    have c2b1 : decide (65 < l0.length) = false := decide_eq_false (by omega)
    clear c2
    obtain rfl := Option.some.inj H
    go_enter Try.func26, Try.ntmps26
    go_wp2
    go_ret
    exact ⟨_, by first | rfl | (simp [errW_none, errW_some] <;> rfl) | (simp [*, errW_none, errW_some] <;> rfl), by (with_reducible repeat (first | apply Kd.V_alloc | apply Kd.V_drewN | apply Kd.V_drew)); exact HO0.out, by repeat (first | (with_reducible first | exact HB.out | apply below_alloc | apply pw_below_drewN | apply below_drew1) | exact HB.out)⟩

/-! ### table_Check: function 27 -/
def table_Check.f (k : Nat) (l0 : List (S26)) : Option (Int) := if (l0.length : Int) < 1 then (some 1) else (if (l0.length : Int) > 64 then (some 1) else ((know_Check.f k l0).bind fun t301 => (some t301)))
theorem table_Check.mono : ∀ a0 k, LeO (table_Check.f k a0) (table_Check.f (k + 1) a0) := by
  intro a0 k
  unfold table_Check.f
  repeat' first
      | (with_reducible exact know_Check.mono _ _)
      | (with_reducible exact LeO.refl _)
      | (with_reducible exact LeO.none _)
      | (with_reducible refine LeO.ite ?_ ?_)
      | (with_reducible refine LeO.bind ?_ (fun _ => ?_))
      | exact know_Check.mono _ _
      | exact LeO.none _
      | refine LeO.ite ?_ ?_
      | refine LeO.bind ?_ (fun _ => ?_)
set_option maxHeartbeats 8000000 in
set_option maxRecDepth 100000 in
theorem table_Check.calls (k : Nat) (A0 : Option Addr) (c0 : Nat) (l0 : List (S26)) (r : Int) (w : World) (hr0 : Kd.C k26 w A0 l0.length l0) (hc0 : l0.length ≤ c0) (h : table_Check.f k l0 = some r) :
    Calls Try.prog 27 #[.slice A0 l0.length c0] w fun e w' => e = .returned (.int .i64 r) ∧ Below w.heap.size w w' := by
  have HR0 := Aside0.mk hr0
  have HC0 := Aside0.mk hc0
  clear hr0 hc0
  have HB := Aside0.mk (Below.refl w.heap.size w)
  have H : (if (l0.length : Int) < 1 then (some 1) else (if (l0.length : Int) > 64 then (some 1) else ((know_Check.f k l0).bind fun t301 => (some t301)))) = some r := h
  clear h
  by_cases c2 : (l0.length : Int) < 1
  · rw [if_pos c2] at H
    have c2b0 : decide ((l0.length : Int) < 1) = true := decide_eq_true c2
    have c2b1 : decide (l0.length < 1) = true := decide_eq_true (by omega)
    clear c2
    obtain rfl := Option.some.inj H
    go_enter Try.func27, Try.ntmps27
    go_wp2
    go_ret
    exact ⟨by first | rfl | (simp [errW_none, errW_some] <;> rfl) | (simp [*, errW_none, errW_some] <;> rfl), by repeat (first | (with_reducible first | exact HB.out | apply below_alloc | apply pw_below_drewN | apply below_drew1) | exact HB.out)⟩
  · rw [if_neg c2] at H
    have c2b0 : decide ((l0.length : Int) < 1) = false := decide_eq_false c2
    have c2b1 : decide (l0.length < 1) = false := decide_eq_false (by omega)
    clear c2
    by_cases c3 : (l0.length : Int) > 64
    · rw [if_pos c3] at H
      have c3b0 : decide (64 < (l0.length : Int)) = true := decide_eq_true c3
      have c3b1 : decide (64 < l0.length) = true := decide_eq_true (by omega)
      clear c3
      obtain rfl := Option.some.inj H
      go_enter Try.func27, Try.ntmps27
      go_wp2
      go_ret
      exact ⟨by first | rfl | (simp [errW_none, errW_some] <;> rfl) | (simp [*, errW_none, errW_some] <;> rfl), by repeat (first | (with_reducible first | exact HB.out | apply below_alloc | apply pw_below_drewN | apply below_drew1) | exact HB.out)⟩
    · rw [if_neg c3] at H
      have c3b0 : decide (64 < (l0.length : Int)) = false := decide_eq_false c3
      have c3b1 : decide (64 < l0.length) = false := decide_eq_false (by omega)
      clear c3
      replace H := Option.bind_eq_some_iff.mp H
      obtain ⟨t301, A40, H⟩ := H
      replace H : (some t301) = some r := H
      have A4 := Aside0.mk A40
      clear A40
      obtain rfl := Option.some.inj H
      go_enter Try.func27, Try.ntmps27
      go_wp2_with (first | ((with_reducible refine gate_callee (f := 20) rfl ?_); refine goesL_ (some 12) rfl rfl Try.func20 (by kernel_rfl) rfl #[.slice A0 l0.length c0] rfl (by (try simp only [List.map_toArray, List.map_cons, List.map_nil]); first | done | rfl | (simp only [List.length_drop, List.length_take]; rfl)) ?_; (with_reducible refine (know_Check.calls k _ _ l0 t301 _ ?side1 ?side2 A4.out).mono ?_); (case side1 => repeat (first | exact HR0.out | (with_reducible refine Kd.C_alloc ?_ _) | (with_reducible refine Kd.C_drewN ?_ _) | (with_reducible refine Kd.C_drew ?_))); (case side2 => exact HC0.out); rintro e w5 ⟨rfl, hb⟩; refine ⟨_, rfl, ?_⟩; have n0_ := Aside0.mk (below_step (by repeat (first | (with_reducible first | exact HB.out | apply below_alloc | apply pw_below_drewN | apply below_drew1) | exact HB.out)) hb); clear HB; have HB := n0_; clear n0_; (try clear hb); (try clear hb2); (try clear hk); (try clear hi)))
      go_ret
      exact ⟨by first | rfl | (simp [errW_none, errW_some] <;> rfl) | (simp [*, errW_none, errW_some] <;> rfl), by repeat (first | (with_reducible first | exact HB.out | apply below_alloc | apply pw_below_drewN | apply below_drew1) | exact HB.out)⟩

/-! ### api_Know_47: function 47 -/
def api_Know_47.f (l0 : List (S26)) : Option ((List (S26))) := (some (([] : List (S26)) : List (S26))).bind fun y302 => (if y302.length + l0.length < 8796093022208 then (some (y302 ++ l0)) else (none))
set_option maxHeartbeats 8000000 in
set_option maxRecDepth 100000 in
theorem api_Know_47.calls (A0 : Option Addr) (c0 : Nat) (l0 : List (S26)) (r : List (S26)) (w : World) (hr0 : Kd.C k26 w A0 l0.length l0) (hc0 : l0.length ≤ c0) (h : api_Know_47.f l0 = some r) :
    Calls Try.prog 47 #[.slice A0 l0.length c0] w fun e w' => ∃ v0_ : Value, e = .returned (v0_) ∧ Kd.R k26 26 w' w.heap.size (fun _ => True) v0_ r ∧ Below w.heap.size w w' := by
  have q0 : ∀ (w : World) (a : Option Addr) (n c n' c' : Nat), (binOp .eql 22 (.slice a n c) (.slice none n' c')).run Try.prog w = .ok (.bool a.isNone) w := fun w a n c n' c' => Lib.run_eql_slice_nil w _ _ a n c n' c' Try.underlying22
  cases hA : A0.isNone with
  | true =>
    obtain rfl : A0 = none := by cases A0 <;> simp_all
    obtain rfl : l0 = [] := by
      cases l0 with
      | nil => rfl
      | cons x l1 => obtain ⟨ad, hx, _⟩ := hr0.2.2 (by simp); exact absurd hx (by simp)
    obtain rfl : r = [] := by simpa [api_Know_47.f] using h.symm
    clear hr0 hc0 h
    go_enter Try.func47, Try.ntmps47
    go_wp2
    go_ret
    exact ⟨_, rfl, Kd.R_nil _ _ _ _ _, Below.refl _ _⟩
  | false =>
    have HR0 := Aside0.mk hr0
    have HC0 := Aside0.mk hc0
    clear hr0 hc0
    have HB := Aside0.mk (Below.refl w.heap.size w)
    have H : ((some (([] : List (S26)) : List (S26))).bind fun y302 => (if y302.length + l0.length < 8796093022208 then (some (y302 ++ l0)) else (none))) = some r := h
    clear h
    obtain ⟨y302, hy302⟩ : ∃ y_ : List (S26), y_ = (([] : List (S26))) := ⟨_, rfl⟩
    replace H : (if y302.length + l0.length < 8796093022208 then (some (y302 ++ l0)) else (none)) = some r := by first | (rw [hy302]; with_reducible exact H) | (have H2_ := (Option.bind_some _ _).symm.trans H; rw [hy302]; with_reducible exact H2_) | (have H2_ := (Option.bind_some _ _).symm.trans H; with_reducible exact H2_) | with_reducible exact H | (rw [hy302]; exact H) | exact H
    have Ny302 := Aside0.mk hy302
    clear hy302
    by_cases c2 : y302.length + l0.length < 8796093022208
    · rw [if_pos c2] at H
      have LMc2 := Aside0.mk c2
      clear c2
      obtain ⟨y305, hy305⟩ : ∃ y_ : List (S26), y_ = (y302 ++ l0) := ⟨_, rfl⟩
      replace H : (some y305) = some r := by first | (rw [hy305]; with_reducible exact H) | (have H2_ := (Option.bind_some _ _).symm.trans H; rw [hy305]; with_reducible exact H2_) | (have H2_ := (Option.bind_some _ _).symm.trans H; with_reducible exact H2_) | with_reducible exact H | (rw [hy305]; exact H) | exact H
      have Ny305 := Aside0.mk hy305
      clear hy305
      obtain rfl := Option.some.inj H
      go_enter Try.func47, Try.ntmps47
      go_wp2_with (first | ((with_reducible refine gate_dst (N := 5) rfl ?_); refine Kd.R_lit k26 _ 26 ?hg (N := 5) ?hd (xs := ([] : List (S26))) (inner := []) (ok := fun _ => True) (okp := fun _ => True) ?hr ?hp (fun _ hk => hk) trivial (Below.refl _ _) (Nat.le_refl _) (by simp) ?_; (case hd => rfl); (case hg => rfl); (case hr => first | (go_simp; done) | (go_simp; rfl)); (case hp => exact (Reps.none _ _)); intro v303 w3 ho4 hb hg_ hnew_; clear hg_ hnew_; (first | rw [← Ny302.out] at ho4 | (simp only [Int.reduceToNat] at ho4; rw [← Ny302.out] at ho4)); have n0_ := Aside0.mk (Kd.R_lower ho4 (below_size (by repeat (first | (with_reducible first | exact HB.out | apply below_alloc | apply pw_below_drewN | apply below_drew1) | exact HB.out)))); have n1_ := Aside0.mk (below_step (by repeat (first | (with_reducible first | exact HB.out | apply below_alloc | apply pw_below_drewN | apply below_drew1) | exact HB.out)) hb); clear HB; have HO304 := n0_; have HB := n1_; clear n0_ n1_; clear hb ho4) | ((with_reducible refine gate_builtin (b := .append) (xs := #[.tmp 5, .tmp 6]) rfl ?_); at_builtin; refine Kd.R_append_rows k26 (w0 := w) w.heap.size rfl (.tmp 5) (.tmp 6) 22 26 (.agg #[(.int .u64 0), (.int .i64 0)]) 16 rfl Try.underlying22 info26 rfl (by decide) (by omega) v303 y302 l0 _ _ _ (fun _ => True) (fun _ => False) rfl rfl ?aO ?aR (fun _ _ h => h) (fun _ h => h.elim) ?aF ?aB ?aS ?aL ?_; (case aR => repeat (first | exact (Kd.C_below HR0.out HB.out) | (with_reducible refine Kd.C_alloc ?_ _) | (with_reducible refine Kd.C_drewN ?_ _) | (with_reducible refine Kd.C_drew ?_))); (case aB => exact (by repeat (first | (with_reducible first | exact HB.out | apply below_alloc | apply pw_below_drewN | apply below_drew1) | exact HB.out))); (case aF => exact (fun _ _ => trivial)); (case aO => exact (by (with_reducible repeat (first | apply Kd.R_alloc | apply Kd.R_drewN | apply Kd.R_drew)); exact HO304.out)); (case aS => exact (below_size (by repeat (first | (with_reducible first | exact HB.out | apply below_alloc | apply pw_below_drewN | apply below_drew1) | exact HB.out)))); (case aL => have := LMc2.out; omega); intro v306 w5 ho hb hg hat; rw [← Ny305.out] at ho; have n0_ := Aside0.mk (hb); have n1_ := Aside0.mk (ho); clear HB; clear HO304; have HB := n0_; have HO307 := n1_; clear n0_ n1_; clear ho hb hg hat))
      go_ret
      exact ⟨_, by first | rfl | (simp [errW_none, errW_some] <;> rfl) | (simp [*, errW_none, errW_some] <;> rfl), by (with_reducible repeat (first | apply Kd.R_alloc | apply Kd.R_drewN | apply Kd.R_drew)); exact HO307.out, by repeat (first | (with_reducible first | exact HB.out | apply below_alloc | apply pw_below_drewN | apply below_drew1) | exact HB.out)⟩
    · rw [if_neg c2] at H
      exact absurd H (by simp)

end Go.Proofs.Ytjamociekniepaa.Fn
