/- VoteOnce, over numbers and lists alone: the printed function answers true at every input. -/
import Derived.Test.YtgfblogneggpmaaFnx0
import Derived.Test.YtgfblogneggpmaaFnx9
import Derived.Test.YtgfblogneggpmaaSayVoteOnce
import Derived.Test.YtgfblogneggpmaaPlayed2
namespace Go.Proofs.Ytgfblogneggpmaa.Pure
open Go.RowKit Go.Proofs.Ytgfblogneggpmaa.Fn Go.Proofs.YtgfblogneggpmaaW.PrintWords Go.Proofs.YtgfblogneggpmaaW.PrintMore Go.Proofs.Ytgfblogneggpmaa.Vote

theorem once_l1 (t d r : Int) (g : List S33) (hn : g.length ≤ 60) (h64 : ∀ i (hi : i < g.length), wrap64 (g[i].f2 + t) = g[i].f2 + t)
    (hp : ∀ i j (hi : i < g.length) (hj : j < g.length), i < j → g[i].f1 ≠ g[j].f1 → g[i].f2 + t ≤ g[j].f2) (i B : Nat) (hi : i < g.length) (hL : ∀ k, B ≤ k → tattlelaw17_VoteOnce.l0 k g ((i + 1 : Nat) : Int) t d r = some true) :
    ∀ (dk j k : Nat), j + dk = g.length → i < j → dk + B + 1 ≤ k → tattlelaw17_VoteOnce.l1 k g (i : Int) (j : Int) t d r = some true
  | 0, j, k, hj, hij, hk => by
    obtain ⟨k, rfl⟩ : ∃ m, k = m + 1 := ⟨k - 1, by omega⟩
    have hL' := hL k (by omega)
    have y : -9223372036854775808 ≤ (i : Int) + 1 ∧ (i : Int) + 1 ≤ 9223372036854775807 := by omega
    rw [tattlelaw17_VoteOnce.l1, if_neg (by omega), w64_id _ y.1 y.2]
    exact hL'
  | dk + 1, j, k, hj, hij, hk => by
    obtain ⟨k, rfl⟩ : ∃ m, k = m + 1 := ⟨k - 1, by omega⟩
    have hjl : j < g.length := by omega
    have ih := once_l1 t d r g hn h64 hp i B hi hL dk (j + 1) k (by omega) (by omega) (by omega)
    have y : -9223372036854775808 ≤ (j : Int) + 1 ∧ (j : Int) + 1 ≤ 9223372036854775807 := by omega
    have c1 : (j : Int) < (g.length : Int) := by omega
    have c2 : (i : Int) < (g.length : Int) := by omega
    have c3 : 0 ≤ (i : Int) := by omega
    have c4 : 0 ≤ (j : Int) := by omega
    have hp' := hp i j hi hjl hij
    rw [tattlelaw17_VoteOnce.l1, if_pos c1, if_pos c3, if_pos c2, if_pos c4, w64_id _ y.1 y.2, rd33 hi, rd33 hjl, h64 i hi]
    by_cases he : g[i].f1 = g[j].f1
    · rw [if_pos he]
      exact ih
    · rw [if_neg he, if_neg (Int.not_lt.2 (hp' he))]
      exact ih
theorem once_l0 (t d r : Int) (g : List S33) (hn : g.length ≤ 60) (h64 : ∀ i (hi : i < g.length), wrap64 (g[i].f2 + t) = g[i].f2 + t)
    (hp : ∀ i j (hi : i < g.length) (hj : j < g.length), i < j → g[i].f1 ≠ g[j].f1 → g[i].f2 + t ≤ g[j].f2) :
    ∀ (di i k : Nat), i + di = g.length → 100 * di + 1 ≤ k → tattlelaw17_VoteOnce.l0 k g (i : Int) t d r = some true
  | 0, i, k, hi, hk => by
    obtain ⟨k, rfl⟩ : ∃ m, k = m + 1 := ⟨k - 1, by omega⟩
    rw [tattlelaw17_VoteOnce.l0, if_neg (by omega)]
    rfl
  | di + 1, i, k, hi, hk => by
    obtain ⟨k, rfl⟩ : ∃ m, k = m + 1 := ⟨k - 1, by omega⟩
    have hL : ∀ k, 100 * di + 1 ≤ k → tattlelaw17_VoteOnce.l0 k g ((i + 1 : Nat) : Int) t d r = some true := fun k hk => once_l0 t d r g hn h64 hp di (i + 1) k (by omega) hk
    have h1 := once_l1 t d r g hn h64 hp i (100 * di + 1) (by omega) hL (g.length - (i + 1)) (i + 1) k (by omega) (by omega) (by omega)
    have y : -9223372036854775808 ≤ (i : Int) + 1 ∧ (i : Int) + 1 ≤ 9223372036854775807 := by omega
    rw [tattlelaw17_VoteOnce.l0, if_pos (by omega), w64_id _ y.1 y.2]
    exact h1
theorem VoteOnce : tattlelaw17_VoteOnce.Pure := by
  intro t d r l _ _ _ hl
  obtain ⟨K, hK⟩ : ∃ K : Nat, 2000000 ≤ K := ⟨2000000, Nat.le_refl _⟩
  refine ⟨K + 2, ?_⟩
  obtain ⟨v, hv, hm⟩ := ref_hold K (by omega) t d r
  unfold tattlelaw17_VoteOnce.f
  rw [hv, Option.bind_some]
  by_cases h0 : v = 0
  · rw [if_pos h0]
    rfl
  · have hm : mayt t d r := hm.resolve_left h0
    obtain ⟨g, ag, h1, _, n, now, E, who, u, w, hn, hI⟩ := played_eq (K + 2) (by omega) t d r hm l hl.2.2
    have hb := hm.2.1
    have hb1 := hm.1
    have hI1 := hI.n1
    have hI2 := hI.l1
    rw [if_neg h0, h1, Option.bind_some]
    simp only [if_true]
    refine once_l0 t d r g (by omega) ?_ ?_ g.length 0 (K + 2) (by omega) (by omega)
    · intro i hi
      have := hI.g g[i] (List.getElem_mem hi)
      exact w64_id _ (by omega) (by omega)
    · intro i j hi hj hij
      exact (List.pairwise_iff_getElem.1 hI.p i j hi hj hij).1
end Go.Proofs.Ytgfblogneggpmaa.Pure
