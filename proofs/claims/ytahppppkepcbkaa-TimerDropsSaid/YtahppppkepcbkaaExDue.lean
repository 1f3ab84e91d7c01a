/- timer.Due, by hand: slices.BinarySearchFunc finds how many are due. -/
import Derived.Test.YtahppppkepcbkaaFnx0
import Derived.Test.YtahppppkepcbkaaFnx22
import Derived.Test.YtahppppkepcbkaaExCheck
import Derived.Test.YtahppppkepcbkaaExAdd
namespace Go.Proofs.Ytahppppkepcbkaa.Fn
open Go.RowKit Go.Proofs.YtahppppkepcbkaaW.PrintWords Go.Proofs.YtahppppkepcbkaaW.PrintLast Go.Proofs.YtahppppkepcbkaaW.PrintMore Go.Proofs.Ytahppppkepcbkaa.Tm
set_option linter.unusedVariables false
set_option linter.unusedSimpArgs false
set_option maxRecDepth 100000
set_option maxHeartbeats 400000 in
theorem due_call (x : S52) (now : Int) (w : World) : Calls Try.prog 59 #[.agg #[.int .i64 x.f0, .int .i64 x.f1, .int .i64 x.f2, .int .u64 x.f3], .int .i64 now] w fun e w' => e = .returned (.int .i64 (if x.f0 ≤ now then -1 else 1)) ∧ Below w.heap.size w w' := by
  have hu52 := Try.underlying52
  obtain ⟨x0, x1, x2, x3⟩ := x
  by_cases h : x0 ≤ now
  · have c1 : decide (x0 ≤ now) = true := decide_eq_true h
    rw [if_pos h]
    go_enter Try.func59, Try.ntmps59
    go_wp2
    all_goals
      go_ret
      exact ⟨rfl, (Below.refl _ w).alloc (Nat.le_refl _) _⟩
  · have c1 : decide (x0 ≤ now) = false := decide_eq_false h
    rw [if_neg h]
    go_enter Try.func59, Try.ntmps59
    go_wp2
    all_goals
      go_ret
      exact ⟨rfl, (Below.refl _ w).alloc (Nat.le_refl _) _⟩
set_option maxHeartbeats 1000000 in
theorem bsearch_any (A : Option Addr) (c : Nat) (l : List S52) (now : Int) (w : World) (hr : Kd.C k52 w A l.length l) (hc : l.length ≤ c) (hm : l.length ≤ 300) (hs : srt l) :
    Calls Try.prog 58 #[.slice A l.length c, .int .i64 now, .func (.func 59) #[] #[]] w fun e w' => ∃ (n : Nat) (b : Bool), e = .returned (.tuple #[.int .i64 (n : Int), .bool b]) ∧ n ≤ l.length ∧ (∀ k, k < n → (Tm.g l k).f0 ≤ now) ∧ (∀ k, n ≤ k → k < l.length → now < (Tm.g l k).f0) ∧ Below w.heap.size w w' := by
  have hu52 := Try.underlying52
  have HR := Lib.hid hr
  have HM := Lib.hid hm
  have HS := Lib.hid (show ∀ i j, i ≤ j → j < l.length → (Tm.g l i).f0 ≤ (Tm.g l j).f0 from fun i j h1 h2 => by
    have := srt_at hs i j h1 h2
    unfold Tm.le tlt at this
    omega)
  clear hr hm hs
  go_enter Try.func58, Try.ntmps58
  go_wp2_with fail
  go_loopg [9, 10] l.length (fun gg v9 v10 wr => ∃ i j : Nat, v9 = .int .i64 (i : Int) ∧ v10 = .int .i64 (j : Int) ∧ Aside0 (i ≤ j) ∧ Aside0 (j ≤ l.length) ∧ Aside0 (j ≤ gg + i) ∧ Aside0 (∀ k, k < i → (Tm.g l k).f0 ≤ now) ∧ Aside0 (∀ k, j ≤ k → k < l.length → now < (Tm.g l k).f0) ∧ Aside0 (Below w.heap.size w wr))
  case atStart => exact ⟨0, l.length, rfl, rfl, ⟨Nat.zero_le _⟩, ⟨Nat.le_refl _⟩, ⟨by omega⟩, ⟨fun k h => absurd h (by omega)⟩, ⟨fun k h1 h2 => absurd h2 (by omega)⟩, ⟨Below.refl _ w⟩⟩
  case round =>
    obtain ⟨i, j, rfl, rfl, a1, a2, a3, a4, a5, a6⟩ := hrel
    by_cases hij : i < j
    · obtain ⟨h, hh⟩ : ∃ h, h = (i + j) / 2 := ⟨_, rfl⟩
      have B1 := Lib.hid (show i ≤ h by omega)
      have B2 := Lib.hid (show h < j by omega)
      have hhl : h < l.length := by have := a2.out; omega
      obtain ⟨ad, rfl, hx0, hx1, hx2, hx3⟩ := at_T52 (Kd.C_below HR.out a6.out) (h : Int) (by omega) (by omega)
      rw [Int.toNat_natCast, rd_g] at hx0 hx1 hx2 hx3
      have HDV := Lib.hid (show ((i : Int) + (j : Int)) / 2 = (h : Int) by omega)
      have W1 := Lib.hid (show wrap64 ((i : Int) + (j : Int)) = (i : Int) + (j : Int) by have := HM.out; have := a2.out; unfold wrap64; omega)
      have W2 := Lib.hid (show IntKind.u64.wrap ((i : Int) + (j : Int)) = (i : Int) + (j : Int) by have := HM.out; have := a2.out; rw [IntKind.wrap_u64]; omega)
      have W3 := Lib.hid (show wrap64 (h : Int) = (h : Int) by have := HM.out; unfold wrap64; omega)
      have W4 := Lib.hid (show IntKind.u64.wrap (h : Int) = (h : Int) by have := HM.out; rw [IntKind.wrap_u64]; omega)
      have W5 := Lib.hid (show wrap64 ((h : Int) + 1) = (h : Int) + 1 by have := HM.out; unfold wrap64; omega)
      have hbl : (h : Int) < (l.length : Int) := by omega
      clear hh
      have BJ := Lib.hid (show h ≤ 300 by have := HM.out; omega)
      have HG : ∃ x0 x1 x2 x3, Tm.g l h = ⟨x0, x1, x2, x3⟩ := ⟨_, _, _, _, rfl⟩
      obtain ⟨x0, x1, x2, x3, hg⟩ := HG
      rw [hg] at hx0 hx1 hx2 hx3
      have HG := Lib.hid hg
      clear hg
      by_cases hx : x0 ≤ now
      · have HX := Lib.hid (show ∀ k, k < h + 1 → (Tm.g l k).f0 ≤ now from fun k hk => by
          have h1 := HS.out k h (by omega) (by omega)
          rw [HG.out] at h1
          exact Int.le_trans h1 hx)
        have hdv := HDV.out
        have hw1 := W1.out
        have hw2 := W2.out
        have hw3 := W3.out
        have hw4 := W4.out
        have hw5 := W5.out
        go_wp2_with (go_at_call 59; refine (due_call ⟨x0, x1, x2, x3⟩ now _).mono ?_; rintro e w1 ⟨rfl, hb⟩; rw [if_pos hx]; have HB := Lib.hid (a6.out.trans (hb.mono a6.out.size)); clear hb)
        all_goals
          go_roundg (j - (h + 1))
          case measure => have := a3.out; have := B1.out; have := B2.out; clear hw1 hw2 hw3 hw4 hw5 hdv; omega
          case rel => exact ⟨h + 1, j, by rw [Int.natCast_add]; first | rfl | (rw [hw5]; rfl) | (simp only [hw3, hw5]; rfl), rfl, ⟨B2.out⟩, a2, ⟨by have := B2.out; clear hw1 hw2 hw3 hw4 hw5 hdv; omega⟩, ⟨HX.out⟩, a5, ⟨HB.out⟩⟩
      · have HX := Lib.hid (show ∀ k, h ≤ k → k < l.length → now < (Tm.g l k).f0 from fun k hk hl => by
          have h1 := HS.out h k hk hl
          rw [HG.out] at h1
          exact Int.lt_of_lt_of_le (Int.not_le.1 hx) h1)
        have hdv := HDV.out
        have hw1 := W1.out
        have hw2 := W2.out
        have hw3 := W3.out
        have hw4 := W4.out
        have hw5 := W5.out
        go_wp2_with (go_at_call 59; refine (due_call ⟨x0, x1, x2, x3⟩ now _).mono ?_; rintro e w1 ⟨rfl, hb⟩; rw [if_neg hx]; have HB := Lib.hid (a6.out.trans (hb.mono a6.out.size)); clear hb)
        all_goals
          go_roundg (h - i)
          case measure => have := a3.out; have := B1.out; have := B2.out; clear hw1 hw2 hw3 hw4 hw5 hdv; omega
          case rel => exact ⟨i, h, rfl, by first | rfl | go_num | rw [hw3], ⟨B1.out⟩, ⟨by have := B2.out; have := a2.out; clear hw1 hw2 hw3 hw4 hw5 hdv; omega⟩, ⟨by have := B1.out; clear hw1 hw2 hw3 hw4 hw5 hdv; omega⟩, a4, ⟨HX.out⟩, ⟨HB.out⟩⟩
    · have e : i = j := by have := a1.out; omega
      subst e
      by_cases hil : i < l.length
      · obtain ⟨ad, rfl, hx0, hx1, hx2, hx3⟩ := at_T52 (Kd.C_below HR.out a6.out) (i : Int) (by omega) (by omega)
        rw [Int.toNat_natCast, rd_g] at hx0 hx1 hx2 hx3
        have hbl : (i : Int) < (l.length : Int) := by omega
        generalize Tm.g l i = x at hx0 hx1 hx2 hx3
        obtain ⟨x0, x1, x2, x3⟩ := x
        go_wp2_with (go_at_call 59; refine (due_call ⟨x0, x1, x2, x3⟩ now _).mono ?_; rintro e w1 ⟨rfl, hb⟩; generalize (if (⟨x0, x1, x2, x3⟩ : S52).f0 ≤ now then (-1 : Int) else 1) = rr; have HB := Lib.hid (a6.out.trans (hb.mono a6.out.size)); clear hb)
        all_goals
          go_ret2
          exact ⟨i, _, rfl, a2.out, a4.out, a5.out, HB.out⟩
      · have hbl : decide ((i : Int) < (l.length : Int)) = false := by simp; omega
        go_wp2_with fail
        all_goals
          go_ret2
          exact ⟨i, _, rfl, a2.out, a4.out, a5.out, a6.out⟩
theorem clone_n (A : Option Addr) (c n : Nat) (l : List S52) (W : World) (hl : l.length = n) (hr : Kd.C k52 W A l.length l) (hc : n ≤ c) (hm : n ≤ 300) :
    Calls Try.prog 52 #[.slice A n c] W fun e w' => ∃ v, e = .returned v ∧ Kd.R k52 52 w' W.heap.size (fun _ => True) v l ∧ Below W.heap.size W w' := by
  subst hl
  exact api_Timer_52.calls A c l l W hr hc (clone52 hm)
def timer_Due.f (l0 : List (S52)) (a1 : Int) : Option ((List (S52)) × (List (S52)) × Int) := some (if okl l0 = true then (l0.filter (fun x => decide (x.f0 ≤ a1)), l0.filter (fun x => !decide (x.f0 ≤ a1)), 0) else ([], [], 1))
theorem filter_cut (p : S52 → Bool) : ∀ (l : List S52) (n : Nat), n ≤ l.length → (∀ k, k < n → p (Tm.g l k) = true) → (∀ k, n ≤ k → k < l.length → p (Tm.g l k) = false) → l.take n = l.filter p ∧ l.drop n = l.filter (fun x => !p x)
  | [], n, hn, _, _ => by simp
  | a :: l, 0, hn, _, h2 => by
    have ha : p a = false := by have := h2 0 (Nat.le_refl _) (by simp); simpa [Tm.g] using this
    obtain ⟨q1, q2⟩ := filter_cut p l 0 (Nat.zero_le _) (fun k hk => absurd hk (by omega)) (fun k _ hk => by have := h2 (k + 1) (by omega) (by simpa using hk); simpa [Tm.g] using this)
    rw [List.take_zero] at q1
    rw [List.drop_zero] at q2
    rw [List.take_zero, List.drop_zero, List.filter_cons, List.filter_cons, ha, ← q1, ← q2]
    simp
  | a :: l, n + 1, hn, h1, h2 => by
    have ha : p a = true := by have := h1 0 (by omega); simpa [Tm.g] using this
    obtain ⟨q1, q2⟩ := filter_cut p l n (by simpa using hn) (fun k hk => by have := h1 (k + 1) (by omega); simpa [Tm.g] using this) (fun k hk hl => by have := h2 (k + 1) (by omega) (by simpa using hl); simpa [Tm.g] using this)
    rw [List.take_succ_cons, List.drop_succ_cons, List.filter_cons, List.filter_cons, ha, q1, q2]
    simp
set_option maxHeartbeats 2000000 in
theorem due_good (A0 : Option Addr) (c0 : Nat) (l0 : List (S52)) (now : Int) (w : World) (hr0 : Kd.C k52 w A0 l0.length l0) (hc0 : l0.length ≤ c0) (ho : okl l0 = true) :
    Calls Try.prog 36 #[.slice A0 l0.length c0, .int .i64 now] w fun e w' => ∃ v0_ v1_ : Value, e = .returned (.tuple #[v0_, v1_, .int .i64 0]) ∧ Kd.R k52 52 w' w.heap.size (fun k_ => some k_ ≠ (v1_ : Value).ownBlock) v0_ (l0.filter (fun x => decide (x.f0 ≤ now))) ∧ Kd.R k52 52 w' w.heap.size (fun k_ => some k_ ≠ (v0_ : Value).ownBlock) v1_ (l0.filter (fun x => !decide (x.f0 ≤ now))) ∧ Below w.heap.size w w' := by
  have HR0 := Lib.hid hr0
  have hho : l0.length ≤ 256 ∧ srtB l0 = true := by
    unfold okl at ho
    rw [Bool.and_eq_true, decide_eq_true_eq] at ho
    exact ho
  have HM := Lib.hid (show l0.length ≤ 256 from hho.1)
  have HK := Lib.hid (show timer_Check.f l0 = some 0 by unfold timer_Check.f; rw [if_pos ho])
  have HS := Lib.hid ((srtB_iff l0).1 hho.2)
  clear hr0 ho hho
  go_enter Try.func36, Try.ntmps36
  go_wp2_with (first
    | (go_at_call 32
       refine (timer_Check.calls A0 c0 l0 0 _ HR0.out hc0 HK.out).mono ?_
       rintro e w1 ⟨rfl, hb⟩
       have HB1 := Lib.hid hb
       clear hb)
    | (go_at_call 58
       refine (bsearch_any A0 c0 l0 now _ (Kd.C_below HR0.out HB1.out) hc0 (by have := HM.out; omega) HS.out).mono ?_
       rintro e w2 ⟨n, b, rfl, hn, h1, h2, hb⟩
       have HB2 := Lib.hid (HB1.out.trans (hb.mono HB1.out.size))
       have HN := Lib.hid hn
       have HF := Lib.hid (filter_cut (fun x => decide (x.f0 ≤ now)) l0 n hn (fun k hk => decide_eq_true (h1 k hk)) (fun k hk hl => decide_eq_false (Int.not_le.2 (h2 k hk hl))))
       clear hb h1 h2 hn))
  have HC2 := Lib.hid (Kd.C_below HR0.out HB2.out)
  have hn1 : n ≤ c0 := by have := HN.out; omega
  have hn2 : (n : Int) ≤ (c0 : Int) := by omega
  have hn3 : n ≤ l0.length := HN.out
  have hn4 : (n : Int) ≤ (l0.length : Int) := by omega
  have HLT := Lib.hid (show (l0.take n).length = n by rw [List.length_take]; omega)
  have HLD := Lib.hid (show (l0.drop n).length = l0.length - n by rw [List.length_drop])
  have hcd := Kd.C_drop (c := c0) HC2.out hn3 hc0
  by_cases hcn : c0 = n
  · rw [if_pos hcn] at hcd
    subst hcn
    have HLD0 := Lib.hid (show (l0.drop c0).length = 0 by rw [List.length_drop]; omega)
    have HCD := Lib.hid hcd
    clear hcd
    go_region_with (first
      | (go_at_call_of 52 (Value.slice A0 c0 c0)
         refine (clone_n A0 c0 c0 (l0.take c0) _ HLT.out (Kd.C_take (Kd.C_drew HC2.out) hn3) hn1 (by have := HM.out; omega)).mono ?_
         rintro e w3 ⟨v3, rfl, ho3, hb3⟩
         have HO3 := Lib.hid ho3
         have HB3 := Lib.hid hb3
         clear ho3 hb3)
      | (go_at_call 52
         refine (clone_n (A0) 0 0 (l0.drop c0) _ HLD0.out (Kd.C_below (Kd.C_drew HCD.out) HB3.out) (by omega) (by have := HM.out; omega)).mono ?_
         rintro e w4 ⟨v4, rfl, ho4, hb4⟩
         have HO4 := Lib.hid ho4
         have HB4 := Lib.hid hb4
         clear ho4 hb4))
    all_goals go_wp2
    all_goals
      go_ret3
      have hbB : Below w.heap.size w w3 := HB2.out.drew.trans (HB3.out.mono HB2.out.size)
      have h3 := Kd.R_below (Kd.R_mono (ok' := fun k => k < w3.heap.size) (Kd.R_bound HO3.out) (fun k hk => hk.2.2.1)) HB4.out
      rw [HF.out.1] at h3
      have h4 := HO4.out
      rw [HF.out.2] at h4
      refine ⟨v3, v4, rfl, ?_, ?_, hbB.trans (HB4.out.mono hbB.size)⟩
      · exact Kd.R_lower (Kd.R_mono h3 (fun k hk he => Nat.not_le.2 hk ((Kd.R_bound HO4.out).1 k he.symm).2.1)) HB2.out.size
      · exact Kd.R_lower (Kd.R_mono (Kd.R_bound h4) (fun k hk he => Nat.not_le.2 ((Kd.R_bound HO3.out).1 k he.symm).2.2.1 hk.2.1)) (Nat.le_trans HB2.out.size HB3.out.size)
  · rw [if_neg hcn] at hcd
    have HCD := Lib.hid hcd
    clear hcd
    go_region_with (first
      | (go_at_call_of 52 (Value.slice A0 n c0)
         refine (clone_n A0 c0 n (l0.take n) _ HLT.out (Kd.C_take (Kd.C_drew HC2.out) hn3) hn1 (by have := HM.out; omega)).mono ?_
         rintro e w3 ⟨v3, rfl, ho3, hb3⟩
         have HO3 := Lib.hid ho3
         have HB3 := Lib.hid hb3
         clear ho3 hb3)
      | (go_at_call 52
         refine (clone_n (Option.map (fun x => x.add (n * 4)) A0) (c0 - n) (l0.length - n) (l0.drop n) _ HLD.out (Kd.C_below (Kd.C_drew HCD.out) HB3.out) (by omega) (by have := HM.out; omega)).mono ?_
         rintro e w4 ⟨v4, rfl, ho4, hb4⟩
         have HO4 := Lib.hid ho4
         have HB4 := Lib.hid hb4
         clear ho4 hb4))
    all_goals go_wp2
    all_goals
      go_ret3
      have hbB : Below w.heap.size w w3 := HB2.out.drew.trans (HB3.out.mono HB2.out.size)
      have h3 := Kd.R_below (Kd.R_mono (ok' := fun k => k < w3.heap.size) (Kd.R_bound HO3.out) (fun k hk => hk.2.2.1)) HB4.out
      rw [HF.out.1] at h3
      have h4 := HO4.out
      rw [HF.out.2] at h4
      refine ⟨v3, v4, rfl, ?_, ?_, hbB.trans (HB4.out.mono hbB.size)⟩
      · exact Kd.R_lower (Kd.R_mono h3 (fun k hk he => Nat.not_le.2 hk ((Kd.R_bound HO4.out).1 k he.symm).2.1)) HB2.out.size
      · exact Kd.R_lower (Kd.R_mono (Kd.R_bound h4) (fun k hk he => Nat.not_le.2 ((Kd.R_bound HO3.out).1 k he.symm).2.2.1 hk.2.1)) (Nat.le_trans HB2.out.size HB3.out.size)
set_option maxHeartbeats 400000 in
theorem timer_Due.calls (A0 : Option Addr) (c0 : Nat) (l0 : List (S52)) (a1 : Int) (r1 : List (S52)) (r2 : List (S52)) (r3 : Int) (w : World) (hr0 : Kd.C k52 w A0 l0.length l0) (hc0 : l0.length ≤ c0) (h : timer_Due.f l0 a1 = some (r1, r2, r3)) :
    Calls Try.prog 36 #[.slice A0 l0.length c0, .int .i64 a1] w fun e w' => ∃ v0_ v1_ : Value, e = .returned (.tuple #[v0_, v1_, .int .i64 r3]) ∧ Kd.R k52 52 w' w.heap.size (fun k_ => some k_ ≠ (v1_ : Value).ownBlock) v0_ r1 ∧ Kd.R k52 52 w' w.heap.size (fun k_ => some k_ ≠ (v0_ : Value).ownBlock) v1_ r2 ∧ Below w.heap.size w w' := by
  have h := Option.some.inj h
  cases ho : okl l0 with
  | false =>
    rw [ho, if_neg Bool.false_ne_true] at h
    simp only [Prod.mk.injEq] at h
    obtain ⟨rfl, rfl, rfl⟩ := h
    have HR0 := Lib.hid hr0
    have HK := Lib.hid (show timer_Check.f l0 = some 1 by unfold timer_Check.f; rw [ho]; rfl)
    clear hr0 ho
    go_enter Try.func36, Try.ntmps36
    go_wp2_with (go_at_call 32
                 refine (timer_Check.calls A0 c0 l0 1 _ HR0.out hc0 HK.out).mono ?_
                 rintro e w1 ⟨rfl, hb⟩
                 have HB1 := Lib.hid hb
                 clear hb)
    all_goals
      go_ret3
      exact ⟨_, _, rfl, Kd.R_nil _ _ _ _ _, Kd.R_nil _ _ _ _ _, HB1.out⟩
  | true =>
    rw [ho, if_pos rfl] at h
    simp only [Prod.mk.injEq] at h
    obtain ⟨rfl, rfl, rfl⟩ := h
    exact due_good A0 c0 l0 a1 w hr0 hc0 ho
end Go.Proofs.Ytahppppkepcbkaa.Fn
