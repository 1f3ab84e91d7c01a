/- TurnOnce, over numbers and lists alone: the printed function answers true at every input. -/
import Derived.Test.YtlanodnbdgiihaaFnx13
import Derived.Test.YtlanodnbdgiihaaFnx17
import Derived.Test.YtlanodnbdgiihaaSayTurnOnce
import Derived.Test.YtlanodnbdgiihaaTurn3
namespace Go.Proofs.Ytlanodnbdgiihaa.Pure
open Go.RowKit Go.Proofs.Ytlanodnbdgiihaa.Fn Go.Proofs.YtlanodnbdgiihaaW.PrintWords Go.Proofs.YtlanodnbdgiihaaW.PrintMore Go.Proofs.Ytlanodnbdgiihaa.Dice

theorem few8o_eq (l : List Int) : ∃ l', tattlelaw08_Few.f l = some l' ∧ l'.length ≤ 65 := by
  unfold tattlelaw08_Few.f
  by_cases h : (l.length : Int) > 65
  · rw [if_pos h, if_pos (by omega)]
    exact ⟨_, rfl, by rw [List.length_take]; omega⟩
  · rw [if_neg h]
    exact ⟨_, rfl, by omega⟩
/-- Each is asked just once. -/
theorem once_l2 (l a tl : List Int) (hl : l.length ≤ 12) (ha : a.Perm l) (hn : l.Nodup) (r : Int) (L : ByteArray) (p : Int) (B : Option Bool) (K : Nat) (at_ : Int) (hat : at_ = (l.length : Int))
    (hB : ∀ k, K ≤ k → tattlelaw08_TurnOnce.l0 k l (wrap64 (r + 1)) L p tl at_ = B) :
    ∀ (d i k : Nat), i + d = l.length → d + 100 + K ≤ k → tattlelaw08_TurnOnce.l2 k l r a (i : Int) L p tl at_ = B
  | 0, i, k, hi, hk => by
    obtain ⟨k, rfl⟩ : ∃ m, k = m + 1 := ⟨k - 1, by omega⟩
    rw [tattlelaw08_TurnOnce.l2, if_neg (by omega), if_pos hat]
    exact hB k (by omega)
  | d + 1, i, k, hi, hk => by
    obtain ⟨k, rfl⟩ : ∃ m, k = m + 1 := ⟨k - 1, by omega⟩
    have ih := once_l2 l a tl hl ha hn r L p B K at_ hat hB d (i + 1) k (by omega) (by omega)
    have hil : i < l.length := by omega
    have hmem : l.getD i 0 ∈ l := by simp [hil]
    have hc : a.count (l.getD i 0) = 1 := by rw [ha.count_eq, hn.count, if_pos hmem]
    have hal := ha.length_eq
    have y : -9223372036854775808 ≤ (i : Int) + 1 ∧ (i : Int) + 1 ≤ 9223372036854775807 := by omega
    rw [tattlelaw08_TurnOnce.l2, if_pos (by omega), if_pos (by omega), rd_nat, many_eq k a _ (by omega) (by omega), Option.bind_some, if_pos (by rw [hc]; rfl), w64_id _ y.1 y.2]
    exact ih
/-- One whole order. -/
theorem once_l1 (l : List Int) (hl : l.length ≤ 12) (hs : nodesok l = true) (r : Int) (L : ByteArray) (hL : L.size ≤ 400) (B : Option Bool) (K : Nat) (O : List Int) (hO : O.Perm l) (q : Int) (hq : mayd L q)
    (hB : ∀ k, K ≤ k → tattlelaw08_TurnOnce.l0 k l (wrap64 (r + 1)) L q O (l.length : Int) = B) :
    ∀ (d i k : Nat), i + d = l.length → d + 500 + K ≤ k → tattlelaw08_TurnOnce.l1 k l r (O.take i) (i : Int) L q O (i : Int) = B
  | 0, i, k, hi, hk => by
    obtain ⟨k, rfl⟩ : ∃ m, k = m + 1 := ⟨k - 1, by omega⟩
    have hOl := hO.length_eq
    rw [tattlelaw08_TurnOnce.l1, if_neg (by omega), List.take_of_length_le (by omega), show (i : Int) = (l.length : Int) by omega]
    exact once_l2 l O O hl hO (distd_nodup (nodesok_dis hs)) r L q B K _ rfl hB l.length 0 k (by omega) (by omega)
  | d + 1, i, k, hi, hk => by
    obtain ⟨k, rfl⟩ : ∃ m, k = m + 1 := ⟨k - 1, by omega⟩
    have hOl := hO.length_eq
    have ih := once_l1 l hl hs r L hL B K O hO q hq hB d (i + 1) k (by omega) (by omega)
    have hiO : i < O.length := by omega
    have hmem : O.getD i 0 ∈ l := by
      rw [← hO.mem_iff]
      simp [hiO]
    have y : -9223372036854775808 ≤ (i : Int) + 1 ∧ (i : Int) + 1 ≤ 9223372036854775807 := by omega
    have ht : O.take i ++ [O.getD i 0] = O.take (i + 1) := by
      rw [List.take_succ_eq_append_getElem hiO]
      simp [hiO]
    rw [tattlelaw08_TurnOnce.l1, if_pos (by omega), next_eq k (by omega) L (by omega) q hq l (by omega) (by omega) hs O i (by omega) (by omega) (distd_perm hO (nodesok_dis hs)), nxt_in L O i q l hiO hmem, Option.bind_some]
    simp only [if_true]
    rw [if_pos (by rw [List.length_take]; omega), w64_id _ y.1 y.2, ht]
    exact ih
theorem once_l0 (l : List Int) (hl : l.length ≤ 12) (hs : nodesok l = true) (L : ByteArray) (hL : L.size ≤ 400) (M : Nat) (hM : 2000 ≤ M) :
    ∀ (d r k : Nat), r + d = 3 → d * M + M ≤ k → ∀ (q : Int) (tl : List Int), mayd L q → distd tl = true → tl.length ≤ 12 → (r = 0 ∧ tl = [] ∨ tl.length = l.length) → tattlelaw08_TurnOnce.l0 k l (r : Int) L q tl (tl.length : Int) = some true
  | 0, r, k, hr, hk, q, tl, _, _, _, _ => by
    obtain ⟨k, rfl⟩ : ∃ m, k = m + 1 := ⟨k - 1, by omega⟩
    rw [tattlelaw08_TurnOnce.l0, if_neg (by omega)]
    rfl
  | d + 1, r, k, hr, hk, q, tl, hq, hd, htl, hor => by
    rw [Nat.succ_mul] at hk
    obtain ⟨k, rfl⟩ : ∃ m, k = m + 1 := ⟨k - 1, by omega⟩
    have y : -9223372036854775808 ≤ (r : Int) + 1 ∧ (r : Int) + 1 ≤ 9223372036854775807 := by omega
    have hpl := shf_place (l.length - 1) l q hq
    have hpm := shf_perm (l.length - 1) l q hq (by omega)
    have hol := hpm.length_eq
    rw [tattlelaw08_TurnOnce.l0, if_pos (by omega)]
    by_cases h0 : l.length = 0
    · obtain rfl := List.eq_nil_of_length_eq_zero h0
      have htn : tl = [] := by
        rcases hor with h | h
        · exact h.2
        · exact List.eq_nil_of_length_eq_zero h
      subst htn
      obtain ⟨k, rfl⟩ : ∃ m, k = m + 1 := ⟨k - 1, by omega⟩
      obtain ⟨k, rfl⟩ : ∃ m, k = m + 1 := ⟨k - 1, by omega⟩
      rw [tattlelaw08_TurnOnce.l1, if_neg (by simp), tattlelaw08_TurnOnce.l2, if_neg (by simp), if_pos rfl, w64_id _ y.1 y.2]
      exact once_l0 [] hl hs L hL M hM d (r + 1) k (by omega) (by omega) q [] hq hd htl (.inr rfl)
    · obtain ⟨k, rfl⟩ : ∃ m, k = m + 1 := ⟨k - 1, by omega⟩
      have hn := next_eq k (by omega) L (by omega) q hq l (by omega) (by omega) hs tl tl.length (by omega) (Nat.le_refl _) hd
      rw [nxt_end L tl q l] at hn
      have hdO := distd_perm hpm (nodesok_dis hs)
      have hB : ∀ k', d * M + M ≤ k' → tattlelaw08_TurnOnce.l0 k' l (wrap64 ((r : Int) + 1)) L (shf L (l.length - 1) l q).2 (shf L (l.length - 1) l q).1 (l.length : Int) = some true := by
        intro k' hk'
        have := once_l0 l hl hs L hL M hM d (r + 1) k' (by omega) (by omega) _ _ hpl.1 hdO (by omega) (.inr hol)
        rw [show (((shf L (l.length - 1) l q).1.length : Nat) : Int) = (l.length : Int) by omega] at this
        rw [w64_id _ y.1 y.2]
        exact this
      have ih := once_l1 l hl hs (r : Int) L hL (some true) (d * M + M) _ hpm _ hpl.1 hB (l.length - 1) 1 k (by omega) (by omega)
      have z : wrap64 ((0 : Int) + 1) = ((1 : Nat) : Int) := by rw [w64_id _ (by omega) (by omega)]; rfl
      rw [tattlelaw08_TurnOnce.l1, if_pos (by omega), hn, Option.bind_some]
      simp only [if_true]
      rw [if_pos (by simp), z]
      have ht : ([] : List Int) ++ [(shf L (l.length - 1) l q).1.getD 0 0] = (shf L (l.length - 1) l q).1.take 1 := by
        cases ho : (shf L (l.length - 1) l q).1 with
        | nil => rw [ho] at hol; simp at hol; omega
        | cons y r => simp
      rw [ht]
      exact ih
theorem TurnOnce : tattlelaw08_TurnOnce.Pure := by
  intro L0 p l0 _ _ _
  obtain ⟨L, hL, hsz⟩ := few_eq L0 p
  obtain ⟨l, hl, hll⟩ := few8o_eq l0
  obtain ⟨K, hK⟩ : ∃ K, 9000 ≤ K := ⟨9000, Nat.le_refl _⟩
  refine ⟨K + 1, ?_⟩
  have hbad : tattlelaw08_TurnOnce.j0 (K + 1) l true L p = some true := by
    rw [tattlelaw08_TurnOnce.j0, if_pos rfl]
    rfl
  unfold tattlelaw08_TurnOnce.f
  rw [hL, Option.bind_some, hl, Option.bind_some]
  simp only
  by_cases h : (l.length : Int) > 12
  · rw [if_pos h, hbad]
  · rw [if_neg h, nodes_eq l (by omega) _ (by omega), Option.bind_some]
    by_cases hs : nodesok l = true
    · rw [if_pos hs, if_pos rfl, rmay_eq, Option.bind_some]
      by_cases hp : mayd L p
      · rw [decide_eq_true hp, tattlelaw08_TurnOnce.j0, if_neg (by decide)]
        exact once_l0 l (by omega) hs L hsz 2000 (Nat.le_refl _) 3 0 K rfl (by omega) p [] hp (by decide) (by simp) (.inl ⟨rfl, rfl⟩)
      · rw [decide_eq_false hp]
        exact hbad
    · rw [if_neg hs, if_neg (by decide), hbad]
end Go.Proofs.Ytlanodnbdgiihaa.Pure
