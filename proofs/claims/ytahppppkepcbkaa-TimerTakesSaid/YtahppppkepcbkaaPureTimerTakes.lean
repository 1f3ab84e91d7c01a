/- TimerTakes, over lists alone: the printed function answers true at every input. -/
import Derived.Test.YtahppppkepcbkaaAw29
import Derived.Test.YtahppppkepcbkaaFnx0
import Derived.Test.YtahppppkepcbkaaFnx23
import Derived.Test.YtahppppkepcbkaaFnx34
import Derived.Test.YtahppppkepcbkaaSayTimerTakes
import Derived.Test.YtahppppkepcbkaaTm2
namespace Go.Proofs.Ytahppppkepcbkaa.Pure
open Go.RowKit Go.Proofs.Ytahppppkepcbkaa.Fn Go.Proofs.YtahppppkepcbkaaW.PrintWords Go.Proofs.YtahppppkepcbkaaW.PrintMore Go.Proofs.Ytahppppkepcbkaa.Tm
set_option linter.unusedVariables false
set_option linter.unusedSimpArgs false
theorem takes_awake : tattlelaw03_awakeT.f = some true := rfl
theorem TimerTakes : tattlelaw03_TimerTakes.Pure := by
  intro l0 a1 a2 a3 h0 h1 h2 h3
  obtain ⟨K, hK⟩ : ∃ K : Nat, 800 ≤ K := ⟨800, Nat.le_refl _⟩
  refine ⟨K + 2, ?_⟩
  unfold tattlelaw03_TimerTakes.f
  rw [tfew_eq, Option.bind_some]
  have hf := tfew_len l0
  generalize tfew l0 = t at *
  rw [tmay_eq (K + 2) t (by omega) (by omega)]
  cases ho : okl t with
  | false =>
    have e1 : timer_Due.f t a1 = some ([], [], 1) := by unfold timer_Due.f; rw [ho]; rfl
    have e2 : timer_Drop.f t a2 a3 = some ([], 1) := by unfold timer_Drop.f; rw [ho]; rfl
    have hck : timer_Check.f t = some 1 := by unfold timer_Check.f; rw [ho]; rfl
    have e3 : timer_Next.f t = some (0, 0, 0, 0, 1) := by unfold timer_Next.f; rw [hck, Option.bind_some, if_neg (by decide)]
    rw [e1, Option.bind_some, e2, Option.bind_some, e3, Option.bind_some, Option.bind_some, if_neg Bool.false_ne_true]
    rfl
  | true =>
    have e1 : timer_Due.f t a1 = some (t.filter (fun x => decide (x.f0 ≤ a1)), t.filter (fun x => !decide (x.f0 ≤ a1)), 0) := by unfold timer_Due.f; rw [ho]; rfl
    have e2 : timer_Drop.f t a2 a3 = some (t.filter (fun x => !ofb a2 a3 x), 0) := by unfold timer_Drop.f; rw [ho]; rfl
    have hck : timer_Check.f t = some 0 := by unfold timer_Check.f; rw [ho]; rfl
    have f1 : t.filter (fun x => decide (x.f0 ≤ a1) == true) = t.filter (fun x => decide (x.f0 ≤ a1)) := by congr 1; funext x; cases decide (x.f0 ≤ a1) <;> rfl
    have f2 : t.filter (fun x => decide (x.f0 ≤ a1) == false) = t.filter (fun x => !decide (x.f0 ≤ a1)) := by congr 1; funext x; cases decide (x.f0 ≤ a1) <;> rfl
    have b1 : (t.filter (fun x => decide (x.f0 ≤ a1))).length ≤ 600 := Nat.le_trans (List.length_filter_le _ _) (by omega)
    have b2 : (t.filter (fun x => !decide (x.f0 ≤ a1))).length ≤ 600 := Nat.le_trans (List.length_filter_le _ _) (by omega)
    have b3 : (t.filter (fun x => !ofb a2 a3 x)).length ≤ 600 := Nat.le_trans (List.length_filter_le _ _) (by omega)
    cases t with
    | nil =>
      have e3 : timer_Next.f ([] : List S52) = some (0, 0, 0, 0, 6) := by unfold timer_Next.f; rw [hck, Option.bind_some, if_pos rfl, if_pos (by rfl)]
      rw [e1, Option.bind_some, e2, Option.bind_some, e3, Option.bind_some, Option.bind_some, if_pos rfl]
      dsimp only
      rw [dref_eq (K + 2) _ (by simp) a1 true (by omega), Option.bind_some, f1, tsame_eq (K + 2) _ _ b1 (by omega), Option.bind_some, decide_eq_true rfl, if_pos rfl,
        dref_eq (K + 2) _ (by simp) a1 false (by omega), Option.bind_some, f2, tsame_eq (K + 2) _ _ b2 (by omega), Option.bind_some, decide_eq_true rfl, if_pos rfl, if_pos rfl,
        rref_eq (K + 2) _ (by simp) a2 a3 (by omega), Option.bind_some, tsame_eq (K + 2) _ _ b3 (by omega), Option.bind_some, decide_eq_true rfl, if_pos rfl]
      rfl
    | cons x t =>
      have hr : rd_T52 (x :: t) 0 = x := rfl
      have e3 : timer_Next.f (x :: t) = some (x.f0, x.f1, x.f2, x.f3, 0) := by
        unfold timer_Next.f
        rw [hck, Option.bind_some, if_pos rfl, if_neg (by first | (simp; done) | (simp; omega)), if_pos (by first | (simp; done) | (simp; omega)), hr]
      rw [e1, Option.bind_some, e2, Option.bind_some, e3, Option.bind_some, Option.bind_some, if_pos rfl]
      dsimp only
      rw [dref_eq (K + 2) _ (by omega) a1 true (by omega), Option.bind_some, f1, tsame_eq (K + 2) _ _ b1 (by omega), Option.bind_some, decide_eq_true rfl, if_pos rfl,
        dref_eq (K + 2) _ (by omega) a1 false (by omega), Option.bind_some, f2, tsame_eq (K + 2) _ _ b2 (by omega), Option.bind_some, decide_eq_true rfl, if_pos rfl, if_pos rfl,
        rref_eq (K + 2) _ (by omega) a2 a3 (by omega), Option.bind_some, tsame_eq (K + 2) _ _ b3 (by omega), Option.bind_some, decide_eq_true rfl, if_pos rfl,
        tattlelaw03_TimerTakes.j0, show ((0 : Int) != 0) = false from rfl, if_neg Bool.false_ne_true, if_neg (by first | (simp; done) | (simp; omega)), if_pos (by first | (simp; done) | (simp; omega)), hr, if_pos (by simp), if_pos rfl, takes_awake]
      rfl
end Go.Proofs.Ytahppppkepcbkaa.Pure
