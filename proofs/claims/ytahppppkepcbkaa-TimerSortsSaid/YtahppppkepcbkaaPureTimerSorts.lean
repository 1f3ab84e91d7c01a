/- TimerSorts, over lists alone: the printed function answers true at every input. -/
import Derived.Test.YtahppppkepcbkaaAw29
import Derived.Test.YtahppppkepcbkaaFnx0
import Derived.Test.YtahppppkepcbkaaFnx30
import Derived.Test.YtahppppkepcbkaaSayTimerSorts
import Derived.Test.YtahppppkepcbkaaTm2
namespace Go.Proofs.Ytahppppkepcbkaa.Pure
open Go.RowKit Go.Proofs.Ytahppppkepcbkaa.Fn Go.Proofs.YtahppppkepcbkaaW.PrintWords Go.Proofs.YtahppppkepcbkaaW.PrintMore Go.Proofs.Ytahppppkepcbkaa.Tm
set_option linter.unusedVariables false
set_option linter.unusedSimpArgs false
theorem sorts_awake : tattlelaw03_awakeT.f = some true := rfl
theorem sorts_j1 (K : Nat) (hK : 600000 ≤ K) (l m : List S52) (hl : l.length ≤ 256) (hm : m.length ≤ 257) (b : List S52) (f : Int) (ha : timer_Add.f l m = some (b, f)) :
    tattlelaw03_TimerSorts.j1 (K + 1) l m b f false = some true := by
  unfold timer_Add.f at ha
  rw [if_neg (by omega)] at ha
  have ha := Option.some.inj ha
  rw [tattlelaw03_TimerSorts.j1, if_neg (by decide), tmay_eq K l (by omega) (by omega), Option.bind_some]
  cases ho : okl l with
  | false =>
    rw [ho, if_neg (by decide)] at ha
    obtain ⟨rfl, rfl⟩ := Prod.mk.inj ha
    rw [if_neg (by decide), if_pos (by rfl), if_pos rfl, sorts_awake]
    rfl
  | true =>
    rw [ho, if_pos rfl] at ha
    rw [if_pos rfl, Option.bind_some, if_pos (by first | (simp; done) | (simp; omega)), Option.bind_some, List.nil_append, if_pos (by omega), Option.bind_some]
    by_cases hlen : 256 < l.length + m.length
    · rw [if_pos hlen] at ha
      obtain ⟨rfl, rfl⟩ := Prod.mk.inj ha
      rw [if_pos (by rw [List.length_append]; omega), if_pos (by rfl), if_pos rfl, sorts_awake]
      rfl
    · rw [if_neg hlen] at ha
      obtain ⟨rfl, rfl⟩ := Prod.mk.inj ha
      have hil := (isort_perm (l ++ m)).length_eq
      rw [List.length_append] at hil
      rw [if_neg (by rw [List.length_append]; omega), tsort_eq K (l ++ m) (by rw [List.length_append]; omega) (by omega), Option.bind_some, tsame_eq K _ _ (by omega) (by omega), Option.bind_some, decide_eq_true rfl, if_pos rfl, if_pos rfl, sorts_awake]
      rfl
theorem sorts_j0 (K : Nat) (hK : 600000 ≤ K) (l m : List S52) (hl : l.length ≤ 257) (hm : m.length ≤ 257) (a : List S52) (e : Int) (b : List S52) (f : Int) (hs : timer_Sort.f l = some (a, e)) (ha : timer_Add.f l m = some (b, f)) :
    tattlelaw03_TimerSorts.j0 (K + 2) l m a e b f false = some true := by
  unfold timer_Sort.f at hs
  have hs := Option.some.inj hs
  rw [tattlelaw03_TimerSorts.j0, if_neg (by decide)]
  by_cases h : 256 < l.length
  · rw [if_pos h] at hs
    obtain ⟨rfl, rfl⟩ := Prod.mk.inj hs
    unfold timer_Add.f at ha
    have ho : okl l = false := by unfold okl; rw [decide_eq_false (by omega)]; rfl
    rw [if_neg (by omega), ho, if_neg (by decide)] at ha
    obtain ⟨rfl, rfl⟩ := Prod.mk.inj (Option.some.inj ha)
    rw [if_pos (by omega), if_pos (by rfl), if_pos rfl, if_pos (by rfl), if_pos rfl, sorts_awake]
    rfl
  · rw [if_neg h] at hs
    obtain ⟨rfl, rfl⟩ := Prod.mk.inj hs
    have hil := (isort_perm l).length_eq
    rw [if_neg (by omega), tsort_eq (K + 1) l (by omega) (by omega), Option.bind_some, tsame_eq (K + 1) _ _ (by omega) (by omega), Option.bind_some, decide_eq_true rfl, if_pos rfl, show ((0 : Int) != 0) = false from rfl]
    exact sorts_j1 K hK l m (by omega) hm b f ha
theorem TimerSorts : tattlelaw03_TimerSorts.Pure := by
  intro l0 l1 _ _
  obtain ⟨K, hK⟩ : ∃ K : Nat, 600000 ≤ K := ⟨600000, Nat.le_refl _⟩
  refine ⟨K + 2, ?_⟩
  unfold tattlelaw03_TimerSorts.f
  have hl := tfew_len l0
  have hm := tfew_len l1
  rw [tfew_eq, tfew_eq, Option.bind_some, Option.bind_some]
  generalize tfew l0 = l at *
  generalize tfew l1 = m at *
  obtain ⟨⟨a, e⟩, hs⟩ : ∃ p, timer_Sort.f l = some p := ⟨_, rfl⟩
  obtain ⟨⟨b, f⟩, ha⟩ : ∃ p, timer_Add.f l m = some p := by unfold timer_Add.f; rw [if_neg (by omega)]; exact ⟨_, rfl⟩
  have hj := sorts_j0 K hK l m hl hm a e b f hs ha
  have hc : timer_Check.f l = some (if okl l = true then 0 else 1) := rfl
  have hne : (((if okl l = true then (0 : Int) else 1) == 0) != okl l) = false := by cases okl l <;> rfl
  rw [hs, ha, Option.bind_some, Option.bind_some, hc, Option.bind_some, tmay_eq (K + 2) l (by omega) (by omega), Option.bind_some, hne, if_neg (by decide)]
  by_cases h1 : (l.length : Int) > 1
  · have r0 : rd_T52 l 0 = g l 0 := rd_g l 0
    have r1 : rd_T52 l 1 = g l 1 := rd_g l 1
    rw [if_pos h1, if_pos (by omega), if_pos (by omega), r0, r1, tless_any (K + 2) (g l 0) (g l 1) (by omega), Option.bind_some, rless_eq, Option.bind_some, bne_self_eq_false]
    exact hj
  · rw [if_neg h1]
    exact hj
end Go.Proofs.Ytahppppkepcbkaa.Pure
