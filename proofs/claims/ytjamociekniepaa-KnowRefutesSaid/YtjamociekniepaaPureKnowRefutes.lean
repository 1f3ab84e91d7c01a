/- KnowRefutes, over numbers alone: the printed function answers true at every input. -/
import Derived.Test.YtjamociekniepaaSayKnowRefutes
import Derived.Test.YtjamociekniepaaKnow
namespace Go.Proofs.Ytjamociekniepaa.Pure
open Go.RowKit Go.Proofs.Ytjamociekniepaa.Fn Go.Proofs.YtjamociekniepaaW.PrintWords Go.Proofs.YtjamociekniepaaW.PrintMore Go.Proofs.Ytjamociekniepaa.Know

theorem KnowRefutes : tattlelaw05_KnowRefutes.Pure := by
  intro own k0 k1 hw0 hk0 _
  obtain ⟨ho0, ho1⟩ := u64_wf hw0
  obtain ⟨hk0, hk1⟩ := u64_wf hk0
  refine ⟨20, ?_⟩
  unfold tattlelaw05_KnowRefutes.f
  rw [refute_eq _ _ _ _ hk0 hk1 (by decide), Option.bind_some]
  by_cases hm : may ⟨k0, k1⟩ = true
  · by_cases h1 : k0 < own ∨ k0 = own ∧ k1 = 0
    · have e : rft own k0 k1 = (own, 0) := by simp only [rft, hm, if_true]; rw [if_pos h1]
      have em : mx own k0 = own := by unfold mx; rw [if_neg (by omega)]
      rw [e, em]
      have ew : IntKind.u64.wrap (own - own) = 0 := by rw [Int.sub_self]; exact u64_id 0 (by decide) (by decide)
      have hb : bts ⟨own, 0⟩ ⟨k0, k1⟩ = true ∨ own = k0 ∧ (0 : Int) = k1 := by
        rcases h1 with h1 | h1
        · left
          simp only [bts, hm, Bool.and_true]
          simp [may, h1]
        · right; omega
      have hj : tattlelaw05_KnowRefutes.j0 20 own false k0 k1 = some true := by
        rw [tattlelaw05_KnowRefutes.j0, refute_eq _ _ _ _ hk0 hk1 (by decide), e]
        simp [awake_eq]
      simp only [if_true, ew, Int.lt_irrefl, if_false, beats_eq _ _ _ _ _ (show 3 ≤ 20 by decide), Option.bind_some]
      rw [if_neg (by decide)]
      rcases hb with hb | ⟨h2, h3⟩
      · rw [hb, if_pos rfl]; exact hj
      · subst h2; subst h3
        have : bts ⟨own, 0⟩ ⟨own, 0⟩ = false := by simp [bts]
        rw [this, if_neg (by decide)]
        simpa using hj
    · by_cases h2 : k0 = 18446744073709551615
      · have e : rft own k0 k1 = (0, 4) := by simp only [rft, hm, if_true]; rw [if_neg h1, if_pos h2]
        rw [e]
        have : k0 ≥ own := by omega
        simp [this, awake_eq]
      · have e : rft own k0 k1 = (k0 + 1, 0) := by simp only [rft, hm, if_true]; rw [if_neg h1, if_neg h2]
        have em : mx own k0 = k0 := by unfold mx; split <;> omega
        have ew : IntKind.u64.wrap (k0 + 1 - k0) = 1 := by rw [show k0 + 1 - k0 = 1 by omega]; exact u64_id 1 (by decide) (by decide)
        have hb : bts ⟨k0 + 1, 0⟩ ⟨k0, k1⟩ = true := by
          simp only [bts, hm, Bool.and_true]
          simp [may]
          left; omega
        have e2 : rft (k0 + 1) k0 k1 = (k0 + 1, 0) := by simp only [rft, hm, if_true]; rw [if_pos (Or.inl (by omega))]
        rw [e, em]
        simp only [if_true, ew, beats_eq _ _ _ _ _ (show 3 ≤ 20 by decide), Option.bind_some, hb, Bool.not_true]
        rw [if_neg (by omega), if_neg (by decide), tattlelaw05_KnowRefutes.j0, refute_eq _ _ _ _ hk0 hk1 (by decide), e2]
        simp [awake_eq]
  · have e : rft own k0 k1 = (0, 1) := by simp only [rft]; rw [if_neg hm]
    rw [e]
    simp [awake_eq]
end Go.Proofs.Ytjamociekniepaa.Pure
