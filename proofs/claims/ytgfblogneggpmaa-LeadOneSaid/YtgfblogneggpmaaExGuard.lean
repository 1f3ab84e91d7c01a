/- clock.Guard, by hand: sort.Search over its closure finds the first number of ticks that is too many. -/
import Derived.Test.YtgfblogneggpmaaFnx0
import Derived.Test.YtgfblogneggpmaaHand
import Derived.BigRegion
import Derived.Deep.LoopGhost
namespace Go.Proofs.Ytgfblogneggpmaa.Fn
open Go.RowKit Go.Proofs.YtgfblogneggpmaaW.PrintWords Go.Proofs.YtgfblogneggpmaaW.PrintLast Go.Proofs.YtgfblogneggpmaaW.PrintMore
set_option linter.unusedVariables false
set_option linter.unusedSimpArgs false
/-- Is it too many? -/
def many (term d r : Int) (x : Nat) : Bool := decide ((x : Int) + d + Int.tdiv (x : Int) r ≥ term)
/-- The first one from i on, of k. -/
def first (p : Nat → Bool) : Nat → Nat → Nat
  | 0, i => i
  | k + 1, i => if p i = true then i else first p k (i + 1)
theorem first_spec (p : Nat → Bool) : ∀ (k i : Nat), i ≤ first p k i ∧ first p k i ≤ i + k ∧ (∀ x, i ≤ x → x < first p k i → p x = false) ∧ (first p k i = i + k ∨ p (first p k i) = true)
  | 0, i => ⟨Nat.le_refl _, Nat.le_refl _, fun x h1 h2 => by simp only [first] at h2; omega, .inl rfl⟩
  | k + 1, i => by
    rw [first]
    by_cases h : p i = true
    · rw [if_pos h]
      exact ⟨Nat.le_refl _, by omega, fun x h1 h2 => by omega, .inr h⟩
    · rw [if_neg h]
      obtain ⟨h1, h2, h3, h4⟩ := first_spec p k (i + 1)
      refine ⟨by omega, by omega, fun x hx hx2 => ?_, ?_⟩
      · by_cases e : x = i
        · rw [e]; simpa using h
        · exact h3 x (by omega) hx2
      · rcases h4 with h4 | h4
        · exact .inl (by omega)
        · exact .inr h4
theorem first_is (p : Nat → Bool) (n i : Nat) (hi : i ≤ n) (h1 : ∀ x, x < i → p x = false) (h2 : i = n ∨ p i = true) : first p n 0 = i := by
  obtain ⟨_, k2, k3, k4⟩ := first_spec p n 0
  rw [Nat.zero_add] at k2 k4
  rcases Nat.lt_trichotomy (first p n 0) i with h | h | h
  · have := h1 _ h
    rcases k4 with k4 | k4
    · omega
    · rw [this] at k4; cases k4
  · exact h
  · have := k3 i (Nat.zero_le _) h
    rcases h2 with h2 | h2
    · omega
    · rw [this] at h2; cases h2
theorem many_up (term d r : Int) (hr : 1 ≤ r) {x y : Nat} (h : x ≤ y) (hx : many term d r x = true) : many term d r y = true := by
  unfold many at *
  rw [decide_eq_true_eq] at *
  have := Int.ediv_le_ediv (show 0 < r by omega) (show (x : Int) ≤ (y : Int) by omega)
  rw [Int.tdiv_eq_ediv_of_nonneg (by omega)] at *
  omega
def clock_Guard.f (a0 : Int) (a1 : Int) (a2 : Int) : Option (Int × Int) :=
  if 0 ≤ a0 ∧ a0 ≤ 1099511627776 ∧ 0 ≤ a1 ∧ a1 ≤ 1099511627776 ∧ 1 ≤ a2 ∧ a2 ≤ 1099511627776 then some ((first (many a0 a1 a2) (a0.toNat + 1) 0 : Nat), 0) else some (0, 1)
set_option maxHeartbeats 1000000 in
theorem search_any (w : World) (a b c n : Nat) (term d r : Int) (ha : a < w.heap.size) (hb : b < w.heap.size) (hc : c < w.heap.size) (ca : w.cell? ⟨a, 0, none⟩ = some (.int .i64 term)) (cb : w.cell? ⟨b, 0, none⟩ = some (.int .i64 d)) (cc : w.cell? ⟨c, 0, none⟩ = some (.int .i64 r))
    (ht : 0 ≤ term ∧ term ≤ 1099511627776) (hd : 0 ≤ d ∧ d ≤ 1099511627776) (hr : 1 ≤ r ∧ r ≤ 1099511627776) (hn : n ≤ 1099511627777) :
    Calls Try.prog 51 #[.int .i64 (n : Int), .func (.func 52) #[] #[.pointer (some ⟨b, 0, none⟩), .pointer (some ⟨c, 0, none⟩), .pointer (some ⟨a, 0, none⟩)]] w fun e w' => e = .returned (.int .i64 (first (many term d r) n 0 : Nat)) ∧ Below w.heap.size w w' := by
  go_enter Try.func51, Try.ntmps51
  go_wp2_with fail
  go_loopg [5, 6] n (fun gg v5 v6 wr => ∃ (i j : Nat), v5 = .int .i64 (i : Int) ∧ v6 = .int .i64 (j : Int) ∧ Aside0 (i ≤ j) ∧ Aside0 (j ≤ n) ∧ Aside0 (j ≤ i + gg) ∧ Aside0 (∀ x, x < i → many term d r x = false) ∧ Aside0 (j = n ∨ many term d r j = true) ∧ Aside0 (Below w.heap.size w wr))
  case atStart => exact ⟨0, n, rfl, rfl, ⟨by omega⟩, ⟨by omega⟩, ⟨by omega⟩, ⟨fun x h => by omega⟩, ⟨.inl rfl⟩, ⟨Below.refl _ w⟩⟩
  case round =>
    obtain ⟨i, j, rfl, rfl, a1, a2, a3, a4, a5, a6⟩ := hrel
    by_cases hij : i < j
    · obtain ⟨hcell, _⟩ := bcell a6.out
      have ca' := (hcell a 0 ha).trans ca
      have cb' := (hcell b 0 hb).trans cb
      have cc' := (hcell c 0 hc).trans cc
      have hjn := a2.out
      have hr0 : r ≠ 0 := by omega
      clear hcell
      have hq0 : 0 ≤ ((i : Int) + (j : Int)) / 2 / r := Int.ediv_nonneg (by omega) (by omega)
      have hq1 : ((i : Int) + (j : Int)) / 2 / r ≤ ((i : Int) + (j : Int)) / 2 := Int.ediv_le_self _ (by omega)
      have hw : wrap64 (((i : Int) + (j : Int)) / 2 + d + ((i : Int) + (j : Int)) / 2 / r) = ((i : Int) + (j : Int)) / 2 + d + ((i : Int) + (j : Int)) / 2 / r := by unfold wrap64; omega
      have hmn : (((i + j) / 2 : Nat) : Int) = ((i : Int) + (j : Int)) / 2 := by omega
      have hm : decide (term ≤ wrap64 (((i : Int) + (j : Int)) / 2 + d + ((i : Int) + (j : Int)) / 2 / r)) = many term d r ((i + j) / 2) := by
        rw [hw]
        unfold many
        rw [hmn, Int.tdiv_eq_ediv_of_nonneg (by omega)]
      cases hc : many term d r ((i + j) / 2) with
      | true =>
        rw [hc] at hm
        have HM := Lib.hid hc
        clear hc hmn hw hq0 hq1
        go_wp2
        go_region
        all_goals go_wp2
        all_goals
          go_roundg ((i + j) / 2 - i)
          case measure => have := a3.out; omega
          case rel =>
            exact ⟨i, (i + j) / 2, rfl, by simp, ⟨by omega⟩, ⟨by omega⟩, ⟨by omega⟩, ⟨a4.out⟩, ⟨.inr HM.out⟩, ⟨a6.out.drew⟩⟩
      | false =>
        rw [hc] at hm
        have HM := Lib.hid hc
        clear hc hmn hw hq0 hq1
        go_wp2
        go_region
        all_goals go_wp2
        all_goals
          go_roundg (j - ((i + j) / 2 + 1))
          case measure => have := a3.out; omega
          case rel =>
            refine ⟨(i + j) / 2 + 1, j, by simp, rfl, ⟨by omega⟩, ⟨hjn⟩, ⟨by omega⟩, ⟨fun x hx => ?_⟩, ⟨a5.out⟩, ⟨a6.out.drew⟩⟩
            cases hx' : many term d r x with
            | false => rfl
            | true =>
              have := many_up term d r hr.1 (show x ≤ (i + j) / 2 by omega) hx'
              rw [HM.out] at this
              cases this
    · have e : i = j := by have := a1.out; omega
      subst e
      go_wp2
      go_ret
      exact ⟨by rw [first_is _ n i a2.out a4.out a5.out]; rfl, a6.out⟩
set_option maxHeartbeats 400000 in
theorem guard_bad1 (term d r : Int) (w : World) (h : term < 0) :
    Calls Try.prog 20 #[.int .i64 term, .int .i64 d, .int .i64 r] w fun e w' => e = .returned (.tuple #[.int .i64 0, .int .i64 1]) ∧ Below w.heap.size w w' := by
  have c1 : decide (term < 0) = true := by simp; omega
  go_enter Try.func20, Try.ntmps20
  go_wp2
  all_goals
    refine bodyPost_ret (v := .tuple #[.int .i64 0, .int .i64 1]) (by simp [results, Try.results20, go_sem]) rfl ⟨rfl, ?_⟩
    exact (((Below.refl _ w).alloc (Nat.le_refl _) _).alloc (by simp) _).alloc (by simp; omega) _
set_option maxHeartbeats 400000 in
theorem guard_bad2 (term d r : Int) (w : World) (h0 : 0 ≤ term) (h : 1099511627776 < term) :
    Calls Try.prog 20 #[.int .i64 term, .int .i64 d, .int .i64 r] w fun e w' => e = .returned (.tuple #[.int .i64 0, .int .i64 1]) ∧ Below w.heap.size w w' := by
  have c1 : decide (term < 0) = false := by simp; omega
  have c2 : decide (1099511627776 < term) = true := by simp; omega
  go_enter Try.func20, Try.ntmps20
  go_wp2
  all_goals
    refine bodyPost_ret (v := .tuple #[.int .i64 0, .int .i64 1]) (by simp [results, Try.results20, go_sem]) rfl ⟨rfl, ?_⟩
    exact (((Below.refl _ w).alloc (Nat.le_refl _) _).alloc (by simp) _).alloc (by simp; omega) _
set_option maxHeartbeats 400000 in
theorem guard_bad3 (term d r : Int) (w : World) (h0 : 0 ≤ term) (h1 : term ≤ 1099511627776) (h : d < 0) :
    Calls Try.prog 20 #[.int .i64 term, .int .i64 d, .int .i64 r] w fun e w' => e = .returned (.tuple #[.int .i64 0, .int .i64 1]) ∧ Below w.heap.size w w' := by
  have c1 : decide (term < 0) = false := by simp; omega
  have c2 : decide (1099511627776 < term) = false := by simp; omega
  have c3 : decide (0 ≤ d) = false := by simp; omega
  go_enter Try.func20, Try.ntmps20
  go_wp2
  all_goals
    refine bodyPost_ret (v := .tuple #[.int .i64 0, .int .i64 1]) (by simp [results, Try.results20, go_sem]) rfl ⟨rfl, ?_⟩
    exact (((Below.refl _ w).alloc (Nat.le_refl _) _).alloc (by simp) _).alloc (by simp; omega) _
set_option maxHeartbeats 400000 in
theorem guard_bad4 (term d r : Int) (w : World) (h0 : 0 ≤ term) (h1 : term ≤ 1099511627776) (h2 : 0 ≤ d) (h : 1099511627776 < d) :
    Calls Try.prog 20 #[.int .i64 term, .int .i64 d, .int .i64 r] w fun e w' => e = .returned (.tuple #[.int .i64 0, .int .i64 1]) ∧ Below w.heap.size w w' := by
  have c1 : decide (term < 0) = false := by simp; omega
  have c2 : decide (1099511627776 < term) = false := by simp; omega
  have c3 : decide (0 ≤ d) = true := by simp; omega
  have c4 : decide (d ≤ 1099511627776) = false := by simp; omega
  go_enter Try.func20, Try.ntmps20
  go_wp2
  all_goals
    refine bodyPost_ret (v := .tuple #[.int .i64 0, .int .i64 1]) (by simp [results, Try.results20, go_sem]) rfl ⟨rfl, ?_⟩
    exact (((Below.refl _ w).alloc (Nat.le_refl _) _).alloc (by simp) _).alloc (by simp; omega) _
set_option maxHeartbeats 400000 in
theorem guard_bad5 (term d r : Int) (w : World) (h0 : 0 ≤ term) (h1 : term ≤ 1099511627776) (h2 : 0 ≤ d) (h3 : d ≤ 1099511627776) (h : r < 1) :
    Calls Try.prog 20 #[.int .i64 term, .int .i64 d, .int .i64 r] w fun e w' => e = .returned (.tuple #[.int .i64 0, .int .i64 1]) ∧ Below w.heap.size w w' := by
  have c1 : decide (term < 0) = false := by simp; omega
  have c2 : decide (1099511627776 < term) = false := by simp; omega
  have c3 : decide (0 ≤ d) = true := by simp; omega
  have c4 : decide (d ≤ 1099511627776) = true := by simp; omega
  have c5 : decide (1 ≤ r) = false := by simp; omega
  go_enter Try.func20, Try.ntmps20
  go_wp2
  all_goals
    refine bodyPost_ret (v := .tuple #[.int .i64 0, .int .i64 1]) (by simp [results, Try.results20, go_sem]) rfl ⟨rfl, ?_⟩
    exact (((Below.refl _ w).alloc (Nat.le_refl _) _).alloc (by simp) _).alloc (by simp; omega) _
set_option maxHeartbeats 400000 in
theorem guard_bad6 (term d r : Int) (w : World) (h0 : 0 ≤ term) (h1 : term ≤ 1099511627776) (h2 : 0 ≤ d) (h3 : d ≤ 1099511627776) (h4 : 1 ≤ r) (h : 1099511627776 < r) :
    Calls Try.prog 20 #[.int .i64 term, .int .i64 d, .int .i64 r] w fun e w' => e = .returned (.tuple #[.int .i64 0, .int .i64 1]) ∧ Below w.heap.size w w' := by
  have c1 : decide (term < 0) = false := by simp; omega
  have c2 : decide (1099511627776 < term) = false := by simp; omega
  have c3 : decide (0 ≤ d) = true := by simp; omega
  have c4 : decide (d ≤ 1099511627776) = true := by simp; omega
  have c5 : decide (1 ≤ r) = true := by simp; omega
  have c6 : decide (r ≤ 1099511627776) = false := by simp; omega
  go_enter Try.func20, Try.ntmps20
  go_wp2
  all_goals
    refine bodyPost_ret (v := .tuple #[.int .i64 0, .int .i64 1]) (by simp [results, Try.results20, go_sem]) rfl ⟨rfl, ?_⟩
    exact (((Below.refl _ w).alloc (Nat.le_refl _) _).alloc (by simp) _).alloc (by simp; omega) _
theorem bound_good (d r : Int) (w : World) (h2 : 0 ≤ d) (h3 : d ≤ 1099511627776) (h4 : 1 ≤ r) (h5 : r ≤ 1099511627776) :
    Calls Try.prog 50 #[.int .i64 d, .int .i64 r] w fun e w' => e = .returned (.bool true) ∧ Below w.heap.size w w' := by
  have c3 : decide (0 ≤ d) = true := by simp; omega
  have c4 : decide (d ≤ 1099511627776) = true := by simp; omega
  have c5 : decide (1 ≤ r) = true := by simp; omega
  have c6 : decide (r ≤ 1099511627776) = true := by simp; omega
  go_enter Try.func50, Try.ntmps50
  go_wp2
  all_goals
    go_ret
    exact ⟨by first | rfl | simp [c6], Below.refl _ w⟩
set_option maxHeartbeats 400000 in
theorem guard_good (term d r : Int) (w : World) (h0 : 0 ≤ term) (h1 : term ≤ 1099511627776) (h2 : 0 ≤ d) (h3 : d ≤ 1099511627776) (h4 : 1 ≤ r) (h5 : r ≤ 1099511627776) :
    Calls Try.prog 20 #[.int .i64 term, .int .i64 d, .int .i64 r] w fun e w' => e = .returned (.tuple #[.int .i64 (first (many term d r) (term.toNat + 1) 0 : Nat), .int .i64 0]) ∧ Below w.heap.size w w' := by
  have c1 : decide (term < 0) = false := by simp; omega
  have c2 : decide (1099511627776 < term) = false := by simp; omega
  have c3 : decide (0 ≤ d) = true := by simp; omega
  have c4 : decide (d ≤ 1099511627776) = true := by simp; omega
  have c5 : decide (1 ≤ r) = true := by simp; omega
  have c6 : decide (r ≤ 1099511627776) = true := by simp; omega
  go_enter Try.func20, Try.ntmps20
  go_wp2_with (go_at_call 50; refine (bound_good d r _ h2 h3 h4 h5).mono ?_; rintro e w1 ⟨rfl, hb⟩; obtain ⟨hc, hf⟩ := bcell hb; have HB := Lib.hid hb; clear hb)
  have hz : w.heap.size + 1 + 1 < w1.heap.size := by have := HB.out.size; simp at this; omega
  obtain ⟨T, rfl⟩ := Int.eq_ofNat_of_zero_le h0
  have hs := search_any w1 w.heap.size (w.heap.size + 1) (w.heap.size + 1 + 1) (T + 1) (T : Int) d r (by omega) (by omega) hz (by rw [hc _ _ (by simp; omega)]; simp [go_sem]) (by rw [hc _ _ (by simp)]; simp [go_sem]) (by rw [hc _ _ (by simp)]; simp [go_sem]) ⟨by omega, by omega⟩ ⟨h2, h3⟩ ⟨h4, h5⟩ (by omega)
  rw [show ((T + 1 : Nat) : Int) = (T : Int) + 1 by omega] at hs
  refine hs.mono ?_
  rintro e w2 ⟨rfl, hb⟩
  have hb2 := hb.mono (show w.heap.size ≤ w1.heap.size by omega)
  go_wp2
  all_goals
    refine bodyPost_ret (v := .tuple #[.int .i64 (first (many (T : Int) d r) (T + 1) 0 : Nat), .int .i64 0]) (by simp [results, Try.results20, go_sem]) rfl ⟨rfl, ?_⟩
    have hb1 := HB.out
    exact (((((Below.refl _ w).alloc (Nat.le_refl _) _).alloc (by simp) _).alloc (by simp; omega) _).trans (hb1.mono (by simp; omega))).trans hb2
theorem clock_Guard.calls (a0 : Int) (a1 : Int) (a2 : Int) (r1 : Int) (r2 : Int) (w : World) (h : clock_Guard.f a0 a1 a2 = some (r1, r2)) :
    Calls Try.prog 20 #[.int .i64 a0, .int .i64 a1, .int .i64 a2] w fun e w' => e = .returned (.tuple #[.int .i64 r1, .int .i64 r2]) ∧ Below w.heap.size w w' := by
  unfold clock_Guard.f at h
  by_cases hg : 0 ≤ a0 ∧ a0 ≤ 1099511627776 ∧ 0 ≤ a1 ∧ a1 ≤ 1099511627776 ∧ 1 ≤ a2 ∧ a2 ≤ 1099511627776
  · rw [if_pos hg] at h
    simp only [Option.some.injEq, Prod.mk.injEq] at h
    obtain ⟨rfl, rfl⟩ := h
    exact guard_good a0 a1 a2 w hg.1 hg.2.1 hg.2.2.1 hg.2.2.2.1 hg.2.2.2.2.1 hg.2.2.2.2.2
  · rw [if_neg hg] at h
    simp only [Option.some.injEq, Prod.mk.injEq] at h
    obtain ⟨rfl, rfl⟩ := h
    by_cases k1 : a0 < 0
    · exact guard_bad1 a0 a1 a2 w k1
    by_cases k2 : 1099511627776 < a0
    · exact guard_bad2 a0 a1 a2 w (by omega) k2
    by_cases k3 : a1 < 0
    · exact guard_bad3 a0 a1 a2 w (by omega) (by omega) k3
    by_cases k4 : 1099511627776 < a1
    · exact guard_bad4 a0 a1 a2 w (by omega) (by omega) (by omega) k4
    by_cases k5 : a2 < 1
    · exact guard_bad5 a0 a1 a2 w (by omega) (by omega) (by omega) (by omega) k5
    · exact guard_bad6 a0 a1 a2 w (by omega) (by omega) (by omega) (by omega) (by omega) (by omega)
end Go.Proofs.Ytgfblogneggpmaa.Fn
