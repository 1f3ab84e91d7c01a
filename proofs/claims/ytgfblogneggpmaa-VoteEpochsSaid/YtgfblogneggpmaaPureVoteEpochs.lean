/- VoteEpochs, over numbers and lists alone: the printed function answers true at every input. -/
import Derived.Test.YtgfblogneggpmaaFnx0
import Derived.Test.YtgfblogneggpmaaFnx10
import Derived.Test.YtgfblogneggpmaaSayVoteEpochs
import Derived.Test.YtgfblogneggpmaaPlayed2
namespace Go.Proofs.Ytgfblogneggpmaa.Pure
open Go.RowKit Go.Proofs.Ytgfblogneggpmaa.Fn Go.Proofs.YtgfblogneggpmaaW.PrintWords Go.Proofs.YtgfblogneggpmaaW.PrintMore Go.Proofs.Ytgfblogneggpmaa.Vote

theorem epochs_l0 (g : List S33) (hn : g.length ≤ 60) (h0 : ∀ i (hi : i < g.length), g[i].f0 ≠ 0)
    (hp : ∀ i j (hi : i < g.length) (hj : j < g.length), i < j → g[i].f0 ≤ g[j].f0 ∧ (g[i].f0 = g[j].f0 → g[i].f1 = g[j].f1)) :
    ∀ (di i k : Nat), g.length ≤ i + di → di + 1 ≤ k → tattlelaw17_VoteEpochs.l0 k g ((i + 1 : Nat) : Int) = some true
  | 0, i, k, hi, hk => by
    obtain ⟨k, rfl⟩ : ∃ m, k = m + 1 := ⟨k - 1, by omega⟩
    rw [tattlelaw17_VoteEpochs.l0, if_neg (by omega)]
    rfl
  | di + 1, i, k, hi, hk => by
    obtain ⟨k, rfl⟩ : ∃ m, k = m + 1 := ⟨k - 1, by omega⟩
    have ih := epochs_l0 g hn h0 hp di (i + 1) k (by omega) (by omega)
    by_cases hil : i + 1 < g.length
    · have hi' : i < g.length := by omega
      have hp' := hp i (i + 1) hi' hil (by omega)
      have hz := h0 (i + 1) hil
      have y : -9223372036854775808 ≤ ((i + 1 : Nat) : Int) + 1 ∧ ((i + 1 : Nat) : Int) + 1 ≤ 9223372036854775807 := by omega
      have c0 : ((i + 1 : Nat) : Int) < (g.length : Int) := by omega
      have c1 : 0 ≤ ((i + 1 : Nat) : Int) := by omega
      have c2 : 0 ≤ (i : Int) := by omega
      have c3 : (i : Int) < (g.length : Int) := by omega
      have y2 : -9223372036854775808 ≤ ((i + 1 : Nat) : Int) - 1 ∧ ((i + 1 : Nat) : Int) - 1 ≤ 9223372036854775807 := by omega
      have e2 : ((i + 1 : Nat) : Int) - 1 = (i : Int) := by omega
      have e1 : ((i + 1 : Nat) : Int) + 1 = ((i + 1 + 1 : Nat) : Int) := by omega
      rw [tattlelaw17_VoteEpochs.l0, if_pos c0, if_pos c1, w64_id _ y.1 y.2, w64_id _ y2.1 y2.2, e2, e1, if_pos c2, if_pos c3, rd33 hil, rd33 hi', if_neg (Int.not_lt.2 hp'.1)]
      by_cases he : g[i + 1].f0 = g[i].f0
      · rw [if_pos he, if_pos (hp'.2 he.symm).symm, if_neg hz]
        exact ih
      · rw [if_neg he, if_neg hz]
        exact ih
    · rw [tattlelaw17_VoteEpochs.l0, if_neg (by omega)]
      rfl
theorem VoteEpochs : tattlelaw17_VoteEpochs.Pure := by
  intro t d r l _ _ _ hl
  obtain ⟨K, hK⟩ : ∃ K : Nat, 2000000 ≤ K := ⟨2000000, Nat.le_refl _⟩
  refine ⟨K + 2, ?_⟩
  obtain ⟨v, hv, hm⟩ := ref_hold K (by omega) t d r
  unfold tattlelaw17_VoteEpochs.f
  rw [hv, Option.bind_some]
  by_cases h0 : v = 0
  · rw [if_pos h0]
    rfl
  · have hm : mayt t d r := hm.resolve_left h0
    obtain ⟨g, ag, h1, _, n, now, E, who, u, w, hn, hI⟩ := played_eq (K + 2) (by omega) t d r hm l hl.2.2
    have hI2 := hI.l1
    rw [if_neg h0, h1, Option.bind_some]
    simp only [if_true]
    refine epochs_l0 g (by omega) ?_ ?_ g.length 0 (K + 2) (by omega) (by omega)
    · intro i hi
      exact (hI.g g[i] (List.getElem_mem hi)).2.2.2.2.1
    · intro i j hi hj hij
      exact (List.pairwise_iff_getElem.1 hI.p i j hi hj hij).2
end Go.Proofs.Ytgfblogneggpmaa.Pure
