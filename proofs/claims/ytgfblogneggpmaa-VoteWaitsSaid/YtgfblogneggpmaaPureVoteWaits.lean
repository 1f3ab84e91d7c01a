/- VoteWaits, over numbers and lists alone: the printed function answers true at every input. -/
import Derived.Test.YtgfblogneggpmaaFnx0
import Derived.Test.YtgfblogneggpmaaFnx11
import Derived.Test.YtgfblogneggpmaaSayVoteWaits
import Derived.Test.YtgfblogneggpmaaPlayed2
namespace Go.Proofs.Ytgfblogneggpmaa.Pure
open Go.RowKit Go.Proofs.Ytgfblogneggpmaa.Fn Go.Proofs.YtgfblogneggpmaaW.PrintWords Go.Proofs.YtgfblogneggpmaaW.PrintMore Go.Proofs.Ytgfblogneggpmaa.Vote

theorem rd_ag {l : List Int} {i : Nat} (hi : i < l.length) : rd l (i : Int) = l[i] := by
  show l.getD ((i : Int)).toNat 0 = l[i]
  simp [hi]
theorem waits_l2 (t d r : Int) (g : List S33) (ag : List Int) (hn : g.length ≤ 60) (ha : ag.length ≤ 60) (h64 : ∀ i (hi : i < ag.length), wrap64 (ag[i] + t) = ag[i] + t)
    (hp : ∀ i j (hi : i < g.length) (hj : j < ag.length), g[i].f2 > ag[j] → ag[j] + t ≤ g[i].f2) (i B : Nat) (hi : i < g.length) (hL : ∀ k, B ≤ k → tattlelaw17_VoteWaits.l1 k g ag ((i + 1 : Nat) : Int) t d r = some true) :
    ∀ (dk j k : Nat), j + dk = ag.length → dk + B + 1 ≤ k → tattlelaw17_VoteWaits.l2 k g ag (i : Int) (j : Int) t d r = some true
  | 0, j, k, hj, hk => by
    obtain ⟨k, rfl⟩ : ∃ m, k = m + 1 := ⟨k - 1, by omega⟩
    have hL' := hL k (by omega)
    have y : -9223372036854775808 ≤ (i : Int) + 1 ∧ (i : Int) + 1 ≤ 9223372036854775807 := by omega
    rw [tattlelaw17_VoteWaits.l2, if_neg (by omega), w64_id _ y.1 y.2]
    exact hL'
  | dk + 1, j, k, hj, hk => by
    obtain ⟨k, rfl⟩ : ∃ m, k = m + 1 := ⟨k - 1, by omega⟩
    have hjl : j < ag.length := by omega
    have ih := waits_l2 t d r g ag hn ha h64 hp i B hi hL dk (j + 1) k (by omega) (by omega)
    have y : -9223372036854775808 ≤ (j : Int) + 1 ∧ (j : Int) + 1 ≤ 9223372036854775807 := by omega
    have c1 : (j : Int) < (ag.length : Int) := by omega
    have c2 : (i : Int) < (g.length : Int) := by omega
    have c3 : 0 ≤ (i : Int) := by omega
    have c4 : 0 ≤ (j : Int) := by omega
    have hp' := hp i j hi hjl
    rw [tattlelaw17_VoteWaits.l2, if_pos c1, if_pos c3, if_pos c2, if_pos c4, w64_id _ y.1 y.2, rd33 hi, rd_ag hjl, h64 j hjl]
    by_cases he : g[i].f2 > ag[j]
    · rw [if_pos he, if_neg (Int.not_lt.2 (hp' he))]
      exact ih
    · rw [if_neg he]
      exact ih
theorem waits_l1 (t d r : Int) (g : List S33) (ag : List Int) (hn : g.length ≤ 60) (ha : ag.length ≤ 60) (h64 : ∀ i (hi : i < ag.length), wrap64 (ag[i] + t) = ag[i] + t)
    (hp : ∀ i j (hi : i < g.length) (hj : j < ag.length), g[i].f2 > ag[j] → ag[j] + t ≤ g[i].f2) :
    ∀ (di i k : Nat), i + di = g.length → 100 * di + 1 ≤ k → tattlelaw17_VoteWaits.l1 k g ag (i : Int) t d r = some true
  | 0, i, k, hi, hk => by
    obtain ⟨k, rfl⟩ : ∃ m, k = m + 1 := ⟨k - 1, by omega⟩
    rw [tattlelaw17_VoteWaits.l1, if_neg (by omega)]
    rfl
  | di + 1, i, k, hi, hk => by
    obtain ⟨k, rfl⟩ : ∃ m, k = m + 1 := ⟨k - 1, by omega⟩
    have hL : ∀ k, 100 * di + 1 ≤ k → tattlelaw17_VoteWaits.l1 k g ag ((i + 1 : Nat) : Int) t d r = some true := fun k hk => waits_l1 t d r g ag hn ha h64 hp di (i + 1) k (by omega) hk
    have h1 := waits_l2 t d r g ag hn ha h64 hp i (100 * di + 1) (by omega) hL ag.length 0 k (by omega) (by omega)
    rw [tattlelaw17_VoteWaits.l1, if_pos (by omega)]
    exact h1
theorem waits_l0 (t d r : Int) (l : List S36) (hl : ∀ x ∈ l, ok36 x) (g : List S33) (ag : List Int) (B : Nat) (ha : ag.length ≤ 60) (hL : ∀ k, B ≤ k → tattlelaw17_VoteWaits.l1 k g ag 0 t d r = some true) :
    ∀ (dd i a k : Nat) (now : Int), i + dd = min l.length 60 → 0 ≤ now → now ≤ 15 * (i : Int) → a ≤ ag.length → ag.drop a = tms l dd i now → 2 * dd + 2 + B ≤ k → tattlelaw17_VoteWaits.l0 k l g ag now 0 (a : Int) (i : Int) t d r = some true
  | 0, i, a, k, now, hi, _, _, _, _, hk => by
    obtain ⟨k, rfl⟩ : ∃ m, k = m + 2 := ⟨k - 2, by omega⟩
    have hL' := hL k (by omega)
    have hj : tattlelaw17_VoteWaits.j1 (k + 1) l g ag now 0 (a : Int) (i : Int) false t d r = some true := by
      rw [tattlelaw17_VoteWaits.j1, if_neg (by decide)]
      exact hL'
    rw [tattlelaw17_VoteWaits.l0]
    by_cases h : (i : Int) < (l.length : Int)
    · rw [if_pos h, decide_eq_false (by omega)]
      exact hj
    · rw [if_neg h]
      exact hj
  | dd + 1, i, a, k, now, hi, hn0, hn1, hal, hd, hk => by
    obtain ⟨k, rfl⟩ : ∃ m, k = m + 2 := ⟨k - 2, by omega⟩
    have hil : i < l.length := by omega
    have hy := later_in hl hil
    have c60 : (i : Int) < 60 := by omega
    have ci : (i : Int) < (l.length : Int) := by omega
    have ci0 : 0 ≤ (i : Int) := by omega
    have cn : i + 1 + dd = min l.length 60 := by omega
    have ck : 2 * dd + 2 + B ≤ k := by omega
    have cm0 : 0 ≤ now + later l i := by omega
    have cm1 : now + later l i ≤ 15 * ((i + 1 : Nat) : Int) := by omega
    have y1 : -9223372036854775808 ≤ now + later l i ∧ now + later l i ≤ 9223372036854775807 := by omega
    have y2 : -9223372036854775808 ≤ (i : Int) + 1 ∧ (i : Int) + 1 ≤ 9223372036854775807 := by omega
    have y3 : -9223372036854775808 ≤ (a : Int) + 1 ∧ (a : Int) + 1 ≤ 9223372036854775807 := by omega
    have ca0 : 0 ≤ (a : Int) := by omega
    have x1 : wrap64 (now + later l i) = now + later l i := w64_id _ y1.1 y1.2
    have x2 : wrap64 ((i : Int) + 1) = ((i + 1 : Nat) : Int) := w64_id _ y2.1 y2.2
    have x3 : wrap64 ((a : Int) + 1) = ((a + 1 : Nat) : Int) := w64_id _ y3.1 y3.2
    have hlat : wrap64 (Int.tmod ((rd_T36 l (i : Int)).f2) 16) = later l i := rfl
    rw [tattlelaw17_VoteWaits.l0, if_pos ci, decide_eq_true c60, tattlelaw17_VoteWaits.j1, if_pos rfl, if_pos ci0, if_pos ci, hlat, x1, x2, x3]
    rw [tms] at hd
    by_cases h3 : (rd_T36 l (i : Int)).f3 = true
    · rw [if_pos h3] at hd
      have hlt : a < ag.length := by
        by_cases h : a < ag.length
        · exact h
        · rw [List.drop_of_length_le (by clear x1 x2 x3 hlat; omega)] at hd
          cases hd
      rw [List.drop_eq_getElem_cons hlt] at hd
      have hd1 : ag[a] = now + later l i := (List.cons.inj hd).1
      have hd2 : ag.drop (a + 1) = tms l dd (i + 1) (now + later l i) := (List.cons.inj hd).2
      have q1 : ¬(a : Int) ≥ (ag.length : Int) := by clear x1 x2 x3 hlat; omega
      have q2 : (a : Int) < (ag.length : Int) := by clear x1 x2 x3 hlat; omega
      rw [if_pos h3, if_neg q1, if_pos ca0, if_pos q2, rd_ag hlt, if_pos hd1]
      exact waits_l0 t d r l hl g ag B ha hL dd (i + 1) (a + 1) k _ cn cm0 cm1 hlt hd2 ck
    · rw [if_neg h3] at hd
      rw [if_neg h3]
      exact waits_l0 t d r l hl g ag B ha hL dd (i + 1) a k _ cn cm0 cm1 hal hd ck
theorem VoteWaits : tattlelaw17_VoteWaits.Pure := by
  intro t d r l _ _ _ hl
  obtain ⟨K, hK⟩ : ∃ K : Nat, 2000000 ≤ K := ⟨2000000, Nat.le_refl _⟩
  refine ⟨K + 2, ?_⟩
  obtain ⟨v, hv, hm⟩ := ref_hold K (by omega) t d r
  unfold tattlelaw17_VoteWaits.f
  rw [hv, Option.bind_some]
  by_cases h0 : v = 0
  · rw [if_pos h0]
    rfl
  · have hm : mayt t d r := hm.resolve_left h0
    obtain ⟨g, ag, h1, htm, n, now, E, who, u, w, hn, hI⟩ := played_eq (K + 2) (by omega) t d r hm l hl.2.2
    have hb := hm.2.1
    have hb1 := hm.1
    have hI1 := hI.n1
    have hI2 := hI.l1
    have hI3 := hI.l2
    rw [if_neg h0, h1, Option.bind_some]
    simp only [if_true]
    have h64 : ∀ i (hi : i < ag.length), wrap64 (ag[i] + t) = ag[i] + t := by
      intro i hi
      have := hI.a ag[i] (List.getElem_mem hi)
      exact w64_id _ (by omega) (by omega)
    have hp : ∀ i j (hi : i < g.length) (hj : j < ag.length), g[i].f2 > ag[j] → ag[j] + t ≤ g[i].f2 := fun i j hi hj => hI.q g[i] (List.getElem_mem hi) ag[j] (List.getElem_mem hj)
    have hg : g.length ≤ 60 := by omega
    have ha : ag.length ≤ 60 := by omega
    have hL : ∀ k, 6001 ≤ k → tattlelaw17_VoteWaits.l1 k g ag 0 t d r = some true := fun k hk => waits_l1 t d r g ag hg ha h64 hp g.length 0 k (by omega) (by omega)
    exact waits_l0 t d r l hl.2.2 g ag 6001 ha hL (min l.length 60) 0 0 (K + 2) 0 (by omega) (by omega) (by omega) (Nat.zero_le _) (by rw [List.drop_zero]; exact htm) (by omega)
end Go.Proofs.Ytgfblogneggpmaa.Pure
