/- KnowTells, over numbers alone: the printed function answers true at every input. -/
import Derived.Test.YtjamociekniepaaSayKnowTells
import Derived.Test.YtjamociekniepaaKnow
namespace Go.Proofs.Ytjamociekniepaa.Pure
open Go.RowKit Go.Proofs.Ytjamociekniepaa.Fn Go.Proofs.YtjamociekniepaaW.PrintWords Go.Proofs.YtjamociekniepaaW.PrintMore Go.Proofs.Ytjamociekniepaa.Know

theorem rrefute_eq (k : Nat) (own k0 k1 : Int) (h0 : 0 ≤ k0) (h1 : k0 ≤ 18446744073709551615) (hk : 2 ≤ k) : tattleref05_Refute.f k own k0 k1 = some (rft own k0 k1) := by
  unfold tattleref05_Refute.f
  rw [may_eq, Option.bind_some]
  obtain ⟨k, rfl⟩ : ∃ m, k = m + 1 := ⟨k - 1, by omega⟩
  simp only [tattleref05_Refute.j0, rft]
  generalize may ⟨k0, k1⟩ = A
  cases A
  · simp
  · simp only [if_true]
    by_cases c1 : k0 < own
    · simp [c1]
    · by_cases c2 : k0 = own
      · subst c2
        by_cases c3 : k1 = 0
        · simp [c3]
        · by_cases c4 : k0 = 18446744073709551615
          · simp [c3, c4]
          · simp [c3, c4]
            exact u64_in k0 h0 (by omega)
      · by_cases c4 : k0 = 18446744073709551615
        · subst c4
          simp [c1, c2]
        · simp [c1, c2, c4]
          exact u64_in k0 h0 (by omega)

theorem up_eq (a0 a1 : Int) : know_Up.f a0 a1 = some (may ⟨a0, a1⟩ && decide (a1 < 2)) := by
  unfold know_Up.f may
  by_cases h0 : a1 = 0
  · subst h0; rfl
  · rw [if_neg h0]
    congr 1
    rw [Bool.eq_iff_iff]
    simp
    omega

theorem KnowTells : tattlelaw05_KnowTells.Pure := by
  intro a0 a1 b0 b1 own ha _ hb _ ho
  obtain ⟨ha0, ha1⟩ := u64_wf ha
  refine ⟨40, ?_⟩
  unfold tattlelaw05_KnowTells.f
  rw [refute_eq _ _ _ _ ha0 ha1 (by decide), Option.bind_some, rrefute_eq _ _ _ _ ha0 ha1 (by decide), Option.bind_some, may_eq, Option.bind_some]
  have hj : ∀ u : Bool, u = (may ⟨a0, a1⟩ && decide (a1 < 2)) → tattlelaw05_KnowTells.j0 40 (rft own a0 a1).1 (rft own a0 a1).2 (rft own a0 a1).1 (rft own a0 a1).2 u a0 a1 b0 b1 = some true := by
    intro u hu
    rw [tattlelaw05_KnowTells.j0]
    simp only [beats_eq _ _ _ _ _ (show 3 ≤ 39 by decide), rbeats_eq, Option.bind_some, beq_self_eq_true, if_true, may_eq, check2 39 _ _ (by decide), up_eq, ← hu, awake_eq _ (show 7 ≤ 39 by decide)]
    simp only [chk, List.all_cons, List.all_nil, Bool.and_true]
    cases may ⟨a0, a1⟩ <;> cases may ⟨b0, b1⟩ <;> simp
  by_cases hm : may ⟨a0, a1⟩ = true
  · rw [if_pos hm]
    exact hj _ (by rw [hm, Bool.true_and])
  · rw [if_neg hm]
    exact hj _ (by simp [hm])
end Go.Proofs.Ytjamociekniepaa.Pure
