/- TimerParts, over lists alone: the printed function answers true at every input. -/
import Derived.Test.YtahppppkepcbkaaAw29
import Derived.Test.YtahppppkepcbkaaFnx0
import Derived.Test.YtahppppkepcbkaaFnx23
import Derived.Test.YtahppppkepcbkaaFnx31
import Derived.Test.YtahppppkepcbkaaSayTimerParts
import Derived.Test.YtahppppkepcbkaaTm2
namespace Go.Proofs.Ytahppppkepcbkaa.Pure
open Go.RowKit Go.Proofs.Ytahppppkepcbkaa.Fn Go.Proofs.YtahppppkepcbkaaW.PrintWords Go.Proofs.YtahppppkepcbkaaW.PrintMore Go.Proofs.Ytahppppkepcbkaa.Tm
set_option linter.unusedVariables false
set_option linter.unusedSimpArgs false
theorem parts_awake : tattlelaw03_awakeT.f = some true := rfl
theorem filter_split (now : Int) : ∀ (l : List S52), srt l → l.filter (fun x => decide (x.f0 ≤ now)) ++ l.filter (fun x => !decide (x.f0 ≤ now)) = l
  | [], _ => rfl
  | a :: l, h => by
    by_cases q : a.f0 ≤ now
    · rw [List.filter_cons, List.filter_cons, decide_eq_true q]
      simp only [if_true, Bool.not_true, Bool.false_eq_true, if_false]
      rw [List.cons_append, filter_split now l h.2]
    · have hno : ∀ b ∈ l, ¬ b.f0 ≤ now := by
        intro b hb hq
        have := h.1 b hb
        unfold le tlt at this
        omega
      have e1 : l.filter (fun x => decide (x.f0 ≤ now)) = [] := List.filter_eq_nil_iff.2 (fun b hb => by simpa using hno b hb)
      have e2 : l.filter (fun x => !decide (x.f0 ≤ now)) = l := List.filter_eq_self.2 (fun b hb => by simpa using hno b hb)
      rw [List.filter_cons, List.filter_cons, decide_eq_false q, e1, e2]
      simp
theorem okl_sort (l : List S52) (h : l.length ≤ 256) : okl (isort l) = true := by
  unfold okl
  rw [(srtB_iff _).2 (isort_srt l), Bool.and_true, decide_eq_true (by rw [(isort_perm l).length_eq]; exact h)]
theorem due_eq {l : List S52} (h : okl l = true) (now : Int) : timer_Due.f l now = some (l.filter (fun x => decide (x.f0 ≤ now)), l.filter (fun x => !decide (x.f0 ≤ now)), 0) := by unfold timer_Due.f; rw [if_pos h]
theorem TimerParts : tattlelaw03_TimerParts.Pure := by
  intro l0 a1 h0 h1
  obtain ⟨_, _, hok⟩ := h0
  obtain ⟨K, hK⟩ : ∃ K : Nat, 800 ≤ K := ⟨800, Nat.le_refl _⟩
  refine ⟨K + 2, ?_⟩
  unfold tattlelaw03_TimerParts.f
  rw [tfew_eq, Option.bind_some]
  have hwf : ∀ x ∈ tfew l0, -9223372036854775808 ≤ x.f0 ∧ x.f0 ≤ 9223372036854775807 := by
    intro x hx
    have hx' : x ∈ l0 := by
      unfold tfew at hx
      split at hx
      · exact List.mem_of_mem_take hx
      · exact hx
    have := (hok x hx').1
    simp [Lit.wf, IntKind.min, IntKind.max, IntKind.bits, IntKind.signed] at this
    omega
  have hf := tfew_len l0
  generalize tfew l0 = t at *
  by_cases hm : 256 < t.length
  · have e : timer_Sort.f t = some ([], 9) := by unfold timer_Sort.f; rw [if_pos hm]
    rw [e, Option.bind_some, if_neg (by decide), if_pos (by rfl), parts_awake]
    rfl
  · have e : timer_Sort.f t = some (isort t, 0) := by unfold timer_Sort.f; rw [if_neg hm]
    have ho := okl_sort t (by omega)
    have hlen := (isort_perm t).length_eq
    have hs := isort_srt t
    have hmem : ∀ x ∈ isort t, -9223372036854775808 ≤ x.f0 ∧ x.f0 ≤ 9223372036854775807 := fun x hx => hwf x ((isort_perm t).mem_iff.1 hx)
    rw [e, Option.bind_some, if_pos rfl]
    generalize isort t = s at *
    have hsp := filter_split a1 s hs
    have hfl : (s.filter (fun x => decide (x.f0 ≤ a1))).length ≤ s.length := List.length_filter_le _ _
    have hfl2 : (s.filter (fun x => !decide (x.f0 ≤ a1))).length ≤ s.length := List.length_filter_le _ _
    rw [due_eq ho, Option.bind_some, if_pos rfl, Option.bind_some, if_pos (by first | (simp; done) | (simp; omega)), Option.bind_some, List.nil_append]
    dsimp only
    rw [if_pos (by omega), hsp, tsame_eq (K + 2) s s (by omega) (by omega), Option.bind_some, decide_eq_true rfl, show (!true) = false from rfl, tattlelaw03_TimerParts.j0, if_neg (by decide)]
    have hck : timer_Check.f s = some 0 := by unfold timer_Check.f; rw [if_pos ho]
    cases s with
    | nil =>
      have en : timer_Next.f ([] : List S52) = some (0, 0, 0, 0, 6) := by
        unfold timer_Next.f
        rw [hck, Option.bind_some, if_pos rfl, if_pos (by rfl)]
      rw [en, Option.bind_some, if_pos (by rfl), if_pos rfl, parts_awake]
      rfl
    | cons x s =>
      have hr : rd_T52 (x :: s) 0 = x := rfl
      have en : timer_Next.f (x :: s) = some (x.f0, x.f1, x.f2, x.f3, 0) := by
        unfold timer_Next.f
        rw [hck, Option.bind_some, if_pos rfl, if_neg (by first | (simp; done) | (simp; omega)), if_pos (by first | (simp; done) | (simp; omega)), hr]
      rw [en, Option.bind_some, if_neg (by first | (simp; done) | (simp; omega))]
      dsimp only
      rw [due_eq ho, Option.bind_some, if_pos rfl]
      dsimp only
      have hfx : (x :: s).filter (fun y => decide (y.f0 ≤ x.f0)) = x :: s.filter (fun y => decide (y.f0 ≤ x.f0)) := by
        rw [List.filter_cons, decide_eq_true (Int.le_refl _), if_pos rfl]
      rw [if_pos rfl, hfx, if_neg (by first | (simp; done) | (simp; omega)), if_pos (by first | (simp; done) | (simp; omega))]
      have hr2 : rd_T52 (x :: s.filter (fun y => decide (y.f0 ≤ x.f0))) 0 = x := rfl
      rw [hr2, show (!(x.f0 == x.f0) || (!(x.f1 == x.f1) || (!(x.f2 == x.f2) || (!(x.f3 == x.f3))))) = false by simp, tattlelaw03_TimerParts.j1, if_neg (by decide)]
      by_cases hx : x.f0 > -9223372036854775808
      · have hb := hmem x (by simp)
        have HW := Lib.hid (show wrap64 (x.f0 - 1) = x.f0 - 1 by unfold wrap64; omega)
        have hnil : (x :: s).filter (fun y => decide (y.f0 ≤ x.f0 - 1)) = [] := by
          refine List.filter_eq_nil_iff.2 (fun b hb => ?_)
          have : x.f0 ≤ b.f0 := by
            rcases List.mem_cons.1 hb with rfl | hb
            · exact Int.le_refl _
            · have := hs.1 b hb
              unfold le tlt at this
              omega
          simp
          omega
        rw [if_pos hx, HW.out, due_eq ho, Option.bind_some, hnil, if_neg (by simp), if_pos rfl, parts_awake]
        rfl
      · rw [if_neg hx, parts_awake]
        rfl
end Go.Proofs.Ytahppppkepcbkaa.Pure
