/- lead.Check, by hand: slices.ContainsFunc over its closure finds an odd moment. -/
import Derived.Test.YtgfblogneggpmaaFnx15
import Derived.Test.YtgfblogneggpmaaHand
import Derived.BigRegion
import Derived.Deep.LoopGhost
namespace Go.Proofs.Ytgfblogneggpmaa.Fn
open Go.RowKit Go.Proofs.YtgfblogneggpmaaW.PrintWords Go.Proofs.YtgfblogneggpmaaW.PrintLast Go.Proofs.YtgfblogneggpmaaW.PrintMore
set_option linter.unusedVariables false
set_option linter.unusedSimpArgs false
set_option maxRecDepth 100000
/-- Is it no moment, nor -1? -/
def odd (x : Int) : Bool := decide (x ≠ -1) && !(decide (0 ≤ x) && decide (x ≤ 1099511627776))
def leadok (l : List Int) : Bool := decide (1 ≤ l.length) && (decide (l.length ≤ 64) && !l.any odd)
def lead_Check.f (a0_0 : Int) (l0_1 : List Int) : Option (Int) := some (if leadok l0_1 = true then 0 else 1)
set_option maxHeartbeats 400000 in
theorem moment_any (x : Int) (w : World) : Calls Try.prog 53 #[.int .i64 x] w fun e w' => e = .returned (.bool (decide (0 ≤ x) && decide (x ≤ 1099511627776))) ∧ Below w.heap.size w w' := by
  refine (lead_moment.calls x (decide (0 ≤ x) && decide (x ≤ 1099511627776)) w ?_).mono fun e w' h => ⟨h.1, h.2.below⟩
  unfold lead_moment.f
  by_cases h : x ≥ 0
  · rw [if_pos h, decide_eq_true (show 0 ≤ x from h), Bool.true_and]
  · rw [if_neg h, decide_eq_false (show ¬0 ≤ x from h), Bool.false_and]
set_option maxHeartbeats 400000 in
theorem odd_any (x : Int) (w : World) : Calls Try.prog 57 #[.int .i64 x] w fun e w' => e = .returned (.bool (odd x)) ∧ Below w.heap.size w w' := by
  go_enter Try.func57, Try.ntmps57
  by_cases h : x = -1
  · subst h
    go_wp2_with (go_at_call 53; refine (moment_any _ _).mono ?_; rintro e w1 ⟨rfl, hb⟩; have HB := Lib.hid hb; clear hb)
    all_goals
      go_ret
      exact ⟨rfl, by first | exact HB.out | exact Below.refl _ w⟩
  · have c1 : decide (x = -1) = false := by simpa using h
    go_wp2_with (go_at_call 53; refine (moment_any _ _).mono ?_; rintro e w1 ⟨rfl, hb⟩; have HB := Lib.hid hb; clear hb)
    all_goals
      go_ret
      refine ⟨?_, by first | exact HB.out | exact Below.refl _ w⟩
      unfold odd
      simp [h]
set_option maxHeartbeats 1000000 in
theorem index_any (A : Option Addr) (c : Nat) (l : List Int) (w : World) (hr : Kd.C (Kd.int .i64) w A l.length l) (hc : l.length ≤ c) :
    Calls Try.prog 67 #[.slice A l.length c, .func (.func 57) #[] #[]] w fun e w' => ∃ r : Int, e = .returned (.int .i64 r) ∧ decide (0 ≤ r) = l.any odd ∧ Below w.heap.size w w' := by
  have hml : l.length ≤ 9223372036854775807 := by
    have := hr
    unfold Kd.C ReadsRow at this
    simp only [maxLen] at this
    omega
  have HR := Lib.hid hr
  clear hr
  go_enter Try.func67, Try.ntmps67
  go_wp2_with fail
  go_loopg [8] l.length (fun gg v8 wr => ∃ i : Nat, v8 = .int .i64 (i : Int) ∧ Aside0 (i ≤ l.length) ∧ Aside0 (l.length ≤ gg + i) ∧ Aside0 ((l.take i).any odd = false) ∧ Aside0 (Below w.heap.size w wr))
  case atStart => exact ⟨0, rfl, ⟨Nat.zero_le _⟩, ⟨by omega⟩, ⟨rfl⟩, ⟨Below.refl _ w⟩⟩
  case round =>
    obtain ⟨i, rfl, a1, a2, a3, a4⟩ := hrel
    by_cases hi : i < l.length
    · obtain ⟨ad, rfl, hx⟩ := Kd.at_int (Kd.C_below HR.out a4.out) (i : Int) (by omega) (by omega)
      rw [Int.toNat_natCast] at hx
      have hts : l.take (i + 1) = l.take i ++ [rd l (i : Int)] := by
        rw [List.take_succ_eq_append_getElem hi]
        show _ = l.take i ++ [l.getD ((i : Int)).toNat 0]
        simp [hi]
      have hin : rd l (i : Int) ∈ l := by
        have : rd l (i : Int) = l[i] := by show l.getD ((i : Int)).toNat 0 = l[i]; simp [hi]
        rw [this]
        exact List.getElem_mem hi
      have HS := Lib.hid hts
      have HI := Lib.hid hin
      clear hts hin
      generalize hxx : rd l (i : Int) = x at hx HS HI
      clear hxx
      go_wp2_with fail
      refine (odd_any x wr).mono ?_
      rintro e w1 ⟨rfl, hb⟩
      have HB := Lib.hid (a4.out.trans (hb.mono a4.out.size))
      clear hb
      cases ho : odd x with
      | true =>
        go_wp2
        all_goals
          go_ret
          refine ⟨_, rfl, ?_, HB.out⟩
          rw [decide_eq_true (by omega)]
          exact (List.any_eq_true.2 ⟨x, HI.out, ho⟩).symm
      | false =>
        go_wp2
        all_goals
          go_roundg (l.length - (i + 1))
          case measure => have := a2.out; omega
          case rel =>
            refine ⟨i + 1, by first | rfl | go_num, ⟨hi⟩, ⟨by omega⟩, ⟨?_⟩, ⟨HB.out⟩⟩
            rw [HS.out, List.any_append, a3.out]
            simp [ho]
    · have e : i = l.length := by have := a1.out; omega
      subst e
      have h3 := a3.out
      rw [List.take_length] at h3
      go_wp2
      go_ret
      exact ⟨-1, rfl, by rw [h3]; rfl, a4.out⟩
set_option maxHeartbeats 400000 in
theorem contains_any (A : Option Addr) (c : Nat) (l : List Int) (w : World) (hr : Kd.C (Kd.int .i64) w A l.length l) (hc : l.length ≤ c) :
    Calls Try.prog 58 #[.slice A l.length c, .func (.func 57) #[] #[]] w fun e w' => e = .returned (.bool (l.any odd)) ∧ Below w.heap.size w w' := by
  have HR := Lib.hid hr
  clear hr
  go_enter Try.func58, Try.ntmps58
  go_wp2_with (go_at_call 67; refine (index_any A c l _ HR.out hc).mono ?_; rintro e w1 ⟨r, rfl, hd, hb⟩; have HB := Lib.hid hb; clear hb)
  all_goals
    go_ret
    exact ⟨by rw [← hd]; rfl, HB.out⟩
set_option maxHeartbeats 1000000 in
theorem lead_Check.calls (a0_0 : Int) (A0_1 : Option Addr) (c0_1 : Nat) (l0_1 : List Int) (r : Int) (w : World) (hr0_1 : Kd.C (Kd.int .i64) w A0_1 l0_1.length l0_1) (hc0_1 : l0_1.length ≤ c0_1) (h : lead_Check.f a0_0 l0_1 = some r) :
    Calls Try.prog 28 #[.agg #[.int .u64 a0_0, .slice A0_1 l0_1.length c0_1]] w fun e w' => e = .returned (.int .i64 r) ∧ Below w.heap.size w w' := by
  obtain rfl := Option.some.inj h
  clear h
  have hu52 := Try.underlying52
  have hml : l0_1.length ≤ 9223372036854775807 := by
    have := hr0_1
    unfold Kd.C ReadsRow at this
    simp only [maxLen] at this
    omega
  have hbx : Below w.heap.size w (w.alloc (.cells #[.int .u64 a0_0, .slice A0_1 l0_1.length c0_1] 52)) := (Below.refl _ w).alloc (Nat.le_refl _) _
  have HR := Lib.hid (Kd.C_below hr0_1 hbx)
  have HX := Lib.hid hbx
  clear hr0_1 hbx
  generalize hl : l0_1.length = n at *
  have hok : leadok l0_1 = (decide (1 ≤ n) && (decide (n ≤ 64) && !l0_1.any odd)) := by unfold leadok; rw [hl]
  have HK := Lib.hid hok
  clear hok
  subst hl
  by_cases h1 : l0_1.length < 1
  · have c1 : decide ((l0_1.length : Int) < 1) = true := by simp; omega
    have he : (if leadok l0_1 = true then (0 : Int) else 1) = 1 := by rw [HK.out, decide_eq_false (by omega : ¬1 ≤ l0_1.length)]; rfl
    rw [he]
    go_enter Try.func28, Try.ntmps28
    go_wp2
    all_goals
      go_ret
      exact ⟨rfl, HX.out⟩
  · have c1 : decide ((l0_1.length : Int) < 1) = false := by simp; omega
    by_cases h2 : 64 < l0_1.length
    · have c2 : decide ((64 : Int) < (l0_1.length : Int)) = true := by simp; omega
      have he : (if leadok l0_1 = true then (0 : Int) else 1) = 1 := by rw [HK.out, decide_eq_false (by omega : ¬l0_1.length ≤ 64), Bool.false_and, Bool.and_false]; rfl
      rw [he]
      go_enter Try.func28, Try.ntmps28
      go_wp2
      all_goals
        go_ret
        exact ⟨rfl, HX.out⟩
    · have c2 : decide ((64 : Int) < (l0_1.length : Int)) = false := by simp; omega
      have hk : leadok l0_1 = !l0_1.any odd := by rw [HK.out, decide_eq_true (by omega : 1 ≤ l0_1.length), decide_eq_true (by omega : l0_1.length ≤ 64), Bool.true_and, Bool.true_and]
      have he : (if leadok l0_1 = true then (0 : Int) else 1) = (if l0_1.any odd = true then 1 else 0) := by rw [hk]; cases l0_1.any odd <;> rfl
      rw [he]
      clear hk he
      go_enter Try.func28, Try.ntmps28
      go_wp2_with (go_at_call 58; refine (contains_any A0_1 c0_1 l0_1 _ HR.out hc0_1).mono ?_; rintro e w1 ⟨rfl, hb⟩; have HB := Lib.hid (HX.out.trans (hb.mono (by simp))); clear hb)
      all_goals
        go_ret
        exact ⟨rfl, HB.out⟩
end Go.Proofs.Ytgfblogneggpmaa.Fn
