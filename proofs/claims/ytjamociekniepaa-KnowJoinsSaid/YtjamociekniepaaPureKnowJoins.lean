/- KnowJoins, over lists alone: the printed function answers true at every input. -/
import Derived.Test.YtjamociekniepaaSayKnowJoins
import Derived.Test.YtjamociekniepaaKnow
namespace Go.Proofs.Ytjamociekniepaa.Pure
open Go.RowKit Go.Proofs.Ytjamociekniepaa.Fn Go.Proofs.YtjamociekniepaaW.PrintWords Go.Proofs.YtjamociekniepaaW.PrintMore Go.Proofs.Ytjamociekniepaa.Know

theorem joins_l0 (t : List S26) (hm : t.length ≤ maxLen) : ∀ (d i k : Nat) (x want : S26) (e : Int), i + d = t.length → d + 30 ≤ k →
    (if (t.drop i).all may = true then x = (t.drop i).foldl jn want ∧ e = 0 else x = ⟨0, 0⟩ ∧ e = 1) → tattlelaw05_KnowJoins.l0 k t e (i : Int) x.f0 x.f1 want.f0 want.f1 = some true
  | 0, i, k, x, want, e, hi, hk, h => by
    obtain ⟨k, rfl⟩ : ∃ m, k = m + 1 := ⟨k - 1, by omega⟩
    rw [List.drop_of_length_le (by omega)] at h
    obtain ⟨rfl, rfl⟩ : x = want ∧ e = 0 := by simpa using h
    rw [tattlelaw05_KnowJoins.l0, if_neg (by omega)]
    simp [awake_eq k (by omega)]
  | d + 1, i, k, x, want, e, hi, hk, h => by
    obtain ⟨k, rfl⟩ : ∃ m, k = m + 1 := ⟨k - 1, by omega⟩
    have hlt : i < t.length := by omega
    rw [List.drop_eq_getElem_cons hlt, List.all_cons, List.foldl_cons] at h
    rw [tattlelaw05_KnowJoins.l0, if_pos (by omega), if_pos (by omega), rd_at t i hlt, may_eq, rjoin_eq, Option.bind_some, Option.bind_some]
    have e1 : may ⟨t[i].f0, t[i].f1⟩ = may t[i] := rfl
    rw [e1, w64 i _ hlt hm]
    by_cases hy : may t[i] = true
    · rw [hy, Bool.true_and] at h
      rw [if_pos hy]
      exact joins_l0 t hm d (i + 1) k x (jn want t[i]) e (by omega) (by omega) h
    · have hy' : may t[i] = false := by simpa using hy
      rw [hy', Bool.false_and, if_neg (by decide)] at h
      obtain ⟨rfl, rfl⟩ := h
      rw [if_neg hy]
      simp [awake_eq k (by omega)]

theorem few_eq (l : List S26) : tattlelaw05_few.f l = some (l.take 20) := by
  unfold tattlelaw05_few.f
  by_cases h : (l.length : Int) > 20
  · rw [if_pos h, if_pos (by omega)]
  · rw [if_neg h, List.take_of_length_le (by omega)]

theorem KnowJoins : tattlelaw05_KnowJoins.Pure := by
  intro l _
  refine ⟨100, ?_⟩
  unfold tattlelaw05_KnowJoins.f
  rw [few_eq, Option.bind_some]
  have hl : (l.take 20).length ≤ 20 := by rw [List.length_take]; omega
  generalize l.take 20 = t at hl
  rw [join_eq 100 t (by simp only [maxLen]; omega) (by omega), Option.bind_some]
  have h0 : (0 : Int) = ((0 : Nat) : Int) := rfl
  by_cases hc : t.all may = true
  · have e : chk t = 0 := by simp only [chk, hc, if_true]
    rw [e, if_pos rfl]
    exact joins_l0 t (by simp only [maxLen]; omega) t.length 0 100 (jall t) ⟨0, 0⟩ 0 (by omega) (by omega) (by rw [List.drop_zero, if_pos hc]; exact ⟨rfl, rfl⟩)
  · have e : chk t = 1 := by simp only [chk, hc]; rfl
    rw [e, if_neg (by decide)]
    exact joins_l0 t (by simp only [maxLen]; omega) t.length 0 100 ⟨0, 0⟩ ⟨0, 0⟩ 1 (by omega) (by omega) (by rw [List.drop_zero, if_neg hc]; exact ⟨rfl, rfl⟩)
end Go.Proofs.Ytjamociekniepaa.Pure
