/- timer.Sort, by hand: a heap of timers gives them in order. -/
import Derived.Test.YtahppppkepcbkaaFnx0
import Derived.Test.YtahppppkepcbkaaFnx22
import Derived.Test.YtahppppkepcbkaaHq4
namespace Go.Proofs.Ytahppppkepcbkaa.Fn
open Go.RowKit Go.Proofs.YtahppppkepcbkaaW.PrintWords Go.Proofs.YtahppppkepcbkaaW.PrintLast Go.Proofs.YtahppppkepcbkaaW.PrintMore Go.Proofs.Ytahppppkepcbkaa.Tm
set_option linter.unusedVariables false
set_option linter.unusedSimpArgs false
set_option maxRecDepth 100000
def timer_Sort.f (l0 : List (S52)) : Option ((List (S52)) × Int) := some (if 256 < l0.length then ([], 9) else (isort l0, 0))
theorem QW.new {w w1 : World} {v : Value} {l : List S52} (hr : Kd.R k52 52 w1 w.heap.size (fun _ => True) v l) (hb : Below w.heap.size w w1) (g : Nat) : QW w (w1.alloc (.cells #[v] 92)) (w1.alloc (.cells #[v] 92)) w1.heap.size g v l :=
  ⟨blk_new w1 _, Kd.R_alloc (Kd.R_mono (Kd.R_bound hr) (fun k hk => Nat.ne_of_lt hk.2.2.1)) _, hb.size, hb.alloc hb.size _, KeepBut.refl _ _ _⟩
theorem clone52 {l : List S52} (hm : l.length ≤ 300) : api_Timer_52.f l = some l := by
  unfold api_Timer_52.f
  rw [Option.bind_some, if_pos (by simp; omega), List.nil_append]
set_option maxHeartbeats 1000000 in
theorem sort_none (A0 : Option Addr) (c0 : Nat) (w : World) (hr0 : Kd.C k52 w A0 0 []) (hc0 : 0 ≤ c0) :
    Calls Try.prog 31 #[.slice A0 0 c0] w fun e w' => ∃ v0_ : Value, e = .returned (.tuple #[v0_, .int .i64 0]) ∧ Kd.R k52 52 w' w.heap.size (fun _ => True) v0_ [] ∧ Below w.heap.size w w' := by
  have HR := Lib.hid hr0
  clear hr0
  go_enter Try.func31, Try.ntmps31
  go_wp2_with (first
    | (go_at_call 52
       refine (api_Timer_52.calls A0 c0 [] [] _ HR.out hc0 (clone52 (by simp))).mono ?_
       rintro e w1 ⟨v, rfl, ho, hb⟩
       obtain ⟨A1, k1, rfl⟩ := Kd.R_slice ho
       have HQ := Lib.hid (QW.new ho hb w1.heap.size)
       clear ho hb)
    | (go_at_call 56
       refine (qinit_none w _ _ w1.heap.size w1.heap.size A1 k1 HQ.out).mono ?_
       rintro e w2 ⟨rfl, hq2⟩
       have HQ2 := Lib.hid hq2
       clear hq2)
    | (go_at_call 54
       refine (qall_any w _ w1.heap.size w1.heap.size A1 k1 0 [] (fun h => absurd h (by decide)) (fun h => absurd h (by decide)) HQ2.out.lt rfl (HQ2.out.anew _) (by decide)).mono ?_
       rintro e w3 ⟨v3, rfl, ho3, hb3⟩
       have HO3 := Lib.hid ho3
       have HB3 := Lib.hid hb3
       clear ho3 hb3))
  all_goals
    go_ret2
    exact ⟨_, rfl, HO3.out, HB3.out⟩
set_option maxHeartbeats 1000000 in
theorem sort_some (A0 : Option Addr) (c0 : Nat) (l0 : List (S52)) (w : World) (hr0 : Kd.C k52 w A0 l0.length l0) (hc0 : l0.length ≤ c0) (hm : l0.length ≤ 256) (hp : 0 < l0.length) :
    Calls Try.prog 31 #[.slice A0 l0.length c0] w fun e w' => ∃ v0_ : Value, e = .returned (.tuple #[v0_, .int .i64 0]) ∧ Kd.R k52 52 w' w.heap.size (fun _ => True) v0_ (isort l0) ∧ Below w.heap.size w w' := by
  have HR := Lib.hid hr0
  have c1 : decide ((256 : Int) < (l0.length : Int)) = false := by simp; omega
  have HM := Lib.hid hm
  have HP := Lib.hid hp
  have HS := Lib.hid (show qal l0.length (ini l0.length (l0.length / 2) l0) = isort l0 by
    obtain ⟨q1, q2, q3⟩ := qini_all l0
    have e := sort_eq l0
    rw [← qal_eq l0.length (qini l0) q1 q3] at e
    exact e)
  have HI := Lib.hid (show (ini l0.length (l0.length / 2) l0).length = l0.length from (qini_all l0).1)
  clear hr0 hm hp
  go_enter Try.func31, Try.ntmps31
  go_wp2_with (first
    | (go_at_call 52
       refine (api_Timer_52.calls A0 c0 l0 l0 _ HR.out hc0 (clone52 (by have := HM.out; omega))).mono ?_
       rintro e w1 ⟨v, rfl, ho, hb⟩
       obtain ⟨g, k1, rfl, _, hgl, _⟩ := Kd.R_form ho HP.out
       have HQ := Lib.hid (QW.new ho hb g)
       have HGL := Lib.hid hgl
       clear ho hb hgl)
    | (go_at_call 56
       refine (qinit_some w _ _ w1.heap.size g k1 l0.length l0 HQ.out HP.out (by have := HM.out; omega)).mono ?_
       rintro e w2 ⟨rfl, hq2⟩
       have HQ2 := Lib.hid hq2
       clear hq2)
    | (go_at_call 54
       refine (qall_any w _ w1.heap.size g (some ⟨g, 0, none⟩) k1 l0.length (ini l0.length (l0.length / 2) l0) (fun _ => rfl) (fun _ => Nat.ne_of_lt HGL.out) HQ2.out.row_lt HI.out (HQ2.out.anew _) (by have := HM.out; omega)).mono ?_
       rintro e w3 ⟨v3, rfl, ho3, hb3⟩
       have HO3 := Lib.hid ho3
       have HB3 := Lib.hid hb3
       clear ho3 hb3))
  all_goals
    go_ret2
    refine ⟨_, rfl, ?_, HB3.out⟩
    rw [← HS.out]
    exact HO3.out
set_option maxHeartbeats 400000 in
theorem timer_Sort.calls (A0 : Option Addr) (c0 : Nat) (l0 : List (S52)) (r1 : List (S52)) (r2 : Int) (w : World) (hr0 : Kd.C k52 w A0 l0.length l0) (hc0 : l0.length ≤ c0) (h : timer_Sort.f l0 = some (r1, r2)) :
    Calls Try.prog 31 #[.slice A0 l0.length c0] w fun e w' => ∃ v0_ : Value, e = .returned (.tuple #[v0_, .int .i64 r2]) ∧ Kd.R k52 52 w' w.heap.size (fun _ => True) v0_ r1 ∧ Below w.heap.size w w' := by
  have h := Option.some.inj h
  by_cases hm : 256 < l0.length
  · rw [if_pos hm] at h
    obtain ⟨rfl, rfl⟩ := Prod.mk.inj h
    have c1 : decide ((256 : Int) < (l0.length : Int)) = true := by simp; omega
    clear h
    go_enter Try.func31, Try.ntmps31
    go_wp2
    all_goals
      go_ret2
      exact ⟨_, rfl, Kd.R_nil _ _ _ _ _, Below.refl _ _⟩
  · rw [if_neg hm] at h
    obtain ⟨rfl, rfl⟩ := Prod.mk.inj h
    clear h
    by_cases hp : 0 < l0.length
    · exact sort_some A0 c0 l0 w hr0 hc0 (by omega) hp
    · obtain rfl := List.eq_nil_of_length_eq_zero (show l0.length = 0 by omega)
      exact sort_none A0 c0 w hr0 hc0
end Go.Proofs.Ytahppppkepcbkaa.Fn
