/- TurnAll, over numbers and lists alone: the printed function answers true at every input. -/
import Derived.Test.YtlanodnbdgiihaaFnx13
import Derived.Test.YtlanodnbdgiihaaFnx16
import Derived.Test.YtlanodnbdgiihaaSayTurnAll
import Derived.Test.YtlanodnbdgiihaaTurn3
namespace Go.Proofs.Ytlanodnbdgiihaa.Pure
open Go.RowKit Go.Proofs.Ytlanodnbdgiihaa.Fn Go.Proofs.YtlanodnbdgiihaaW.PrintWords Go.Proofs.YtlanodnbdgiihaaW.PrintMore Go.Proofs.Ytlanodnbdgiihaa.Dice

theorem few8a_eq (l : List Int) : ∃ l', tattlelaw08_Few.f l = some l' ∧ l'.length ≤ 65 := by
  unfold tattlelaw08_Few.f
  by_cases h : (l.length : Int) > 65
  · rw [if_pos h, if_pos (by omega)]
    exact ⟨_, rfl, by rw [List.length_take]; omega⟩
  · rw [if_neg h]
    exact ⟨_, rfl, by omega⟩
theorem all_l2 (l a : List Int) (hl : l.length ≤ 10) (i : Nat) (ha : a.length ≤ 60) (hi : i + (2 * l.length - 1) ≤ a.length) (h0 : 0 < l.length) (hm : ∀ x ∈ l, x ∈ (a.drop i).take (2 * l.length - 1)) (B : Option Bool) (K : Nat)
    (hB : ∀ k, K ≤ k → tattlelaw08_TurnAll.l1 k l a (2 * (l.length : Int) - 1) ((i : Int) + 1) = B) :
    ∀ (d j k : Nat), j + d = l.length → d + 100 + K ≤ k → tattlelaw08_TurnAll.l2 k l a (2 * (l.length : Int) - 1) (i : Int) (j : Int) = B
  | 0, j, k, hj, hk => by
    obtain ⟨k, rfl⟩ : ∃ m, k = m + 1 := ⟨k - 1, by omega⟩
    rw [tattlelaw08_TurnAll.l2, if_neg (by omega), w64_id _ (by omega) (by omega)]
    exact hB k (by omega)
  | d + 1, j, k, hj, hk => by
    obtain ⟨k, rfl⟩ : ∃ m, k = m + 1 := ⟨k - 1, by omega⟩
    have ih := all_l2 l a hl i ha hi h0 hm B K hB d (j + 1) k (by omega) (by omega)
    have hjl : j < l.length := by omega
    have hmem : l.getD j 0 ∈ l := by simp [hjl]
    have hx := hm _ hmem
    have y : -9223372036854775808 ≤ (j : Int) + 1 ∧ (j : Int) + 1 ≤ 9223372036854775807 := by omega
    have e : wrap64 ((i : Int) + (2 * (l.length : Int) - 1)) = ((i + (2 * l.length - 1) : Nat) : Int) := by rw [w64_id _ (by omega) (by omega)]; omega
    have e2 : (a.take (i + (2 * l.length - 1))).drop i = (a.drop i).take (2 * l.length - 1) := by rw [List.drop_take]; congr 1; omega
    have hc : 0 < ((a.drop i).take (2 * l.length - 1)).count (l.getD j 0) := List.count_pos_iff.2 hx
    have hle : ((a.drop i).take (2 * l.length - 1)).length ≤ 60 := by rw [List.length_take, List.length_drop]; omega
    rw [tattlelaw08_TurnAll.l2, if_pos (by omega), if_pos (by omega), e, if_pos (by omega), if_pos (by omega), if_pos (by omega), Int.toNat_natCast, Int.toNat_natCast, e2, rd_nat, many_eq k _ _ (by omega) (by omega), Option.bind_some, if_neg (by omega), w64_id _ y.1 y.2]
    exact ih
theorem all_l1 (l a : List Int) (hl : l.length ≤ 10) (h0 : 0 < l.length) (ha : a.length = 6 * l.length) (hm : ∀ i : Nat, i + (2 * l.length - 1) ≤ a.length → ∀ x ∈ l, x ∈ (a.drop i).take (2 * l.length - 1)) :
    ∀ (d i k : Nat), i + d = 4 * l.length + 2 → d * 200 + 200 ≤ k → tattlelaw08_TurnAll.l1 k l a (2 * (l.length : Int) - 1) (i : Int) = some true
  | 0, i, k, hi, hk => by
    obtain ⟨k, rfl⟩ : ∃ m, k = m + 1 := ⟨k - 1, by omega⟩
    have e : wrap64 ((i : Int) + (2 * (l.length : Int) - 1)) = ((i + (2 * l.length - 1) : Nat) : Int) := by rw [w64_id _ (by omega) (by omega)]; omega
    rw [tattlelaw08_TurnAll.l1, e, if_neg (by omega)]
    rfl
  | d + 1, i, k, hi, hk => by
    obtain ⟨k, rfl⟩ : ∃ m, k = m + 1 := ⟨k - 1, by omega⟩
    have e : wrap64 ((i : Int) + (2 * (l.length : Int) - 1)) = ((i + (2 * l.length - 1) : Nat) : Int) := by rw [w64_id _ (by omega) (by omega)]; omega
    rw [tattlelaw08_TurnAll.l1, e, if_pos (by omega)]
    refine all_l2 l a hl i (by omega) (by omega) h0 (hm i (by omega)) (some true) (d * 200 + 200 - 0) (fun k hk => ?_) l.length 0 k (by omega) (by omega)
    have := all_l1 l a hl h0 ha hm d (i + 1) k (by omega) (by omega)
    rw [show (i : Int) + 1 = ((i + 1 : Nat) : Int) by omega]
    exact this
theorem all_l0 (l : List Int) (hl : l.length ≤ 10) (h0 : 0 < l.length) (hs : nodesok l = true) (L : ByteArray) (hL : L.size ≤ 400) (s0 : List Int × Int) (hv0 : Va L l s0) :
    ∀ (d i k : Nat), i + d = 6 * l.length → d + 20000 ≤ k → ∀ (q : Int) (tl : List Int) (at_ : Nat), Vt L l tl at_ q → aftr L l i s0 = (rest l tl at_, q) → tattlelaw08_TurnAll.l0 k l (askd L l i s0) (i : Int) tl (at_ : Int) L q = some true
  | 0, i, k, hi, hk, q, tl, at_, hv, hr => by
    obtain ⟨k, rfl⟩ : ∃ m, k = m + 1 := ⟨k - 1, by omega⟩
    have e1 : wrap64 (6 * (l.length : Int)) = 6 * (l.length : Int) := w64_id _ (by omega) (by omega)
    have e2 : wrap64 (2 * (l.length : Int)) = 2 * (l.length : Int) := w64_id _ (by omega) (by omega)
    have hlen := askd_length L l i s0
    rw [tattlelaw08_TurnAll.l0, e1, if_neg (by omega), e2, w64_id (2 * (l.length : Int) - 1) (by omega) (by omega)]
    refine all_l1 l _ hl h0 (by omega) (fun j hj x hx => ?_) (4 * l.length + 2) 0 k (by omega) (by omega)
    have h1 := in_time L l (aftr L l j s0) (Va.aftr (distd_nodup (nodesok_dis hs)) j hv0) x hx
    have h2 : i = j + ((2 * l.length - 1) + (i - j - (2 * l.length - 1))) := by omega
    rw [h2, askd_add, List.drop_left' (askd_length L l j s0), askd_add, List.take_left' (askd_length L l _ _)]
    exact h1
  | d + 1, i, k, hi, hk, q, tl, at_, hv, hr => by
    obtain ⟨k, rfl⟩ : ∃ m, k = m + 1 := ⟨k - 1, by omega⟩
    have e1 : wrap64 (6 * (l.length : Int)) = 6 * (l.length : Int) := w64_id _ (by omega) (by omega)
    have y : -9223372036854775808 ≤ (i : Int) + 1 ∧ (i : Int) + 1 ≤ 9223372036854775807 := by omega
    obtain ⟨tl', at', p', h1, h2, h3, h4⟩ := next_stp k (by omega) L (by omega) q l (by omega) h0 hs tl at_ hv
    have hlen := askd_length L l i s0
    have hcnt : l.count (stp L l (rest l tl at_, q)).1 = 1 := by rw [(distd_nodup (nodesok_dis hs)).count, if_pos h3]
    have ih := all_l0 l hl h0 hs L hL s0 hv0 d (i + 1) k (by omega) (by omega) p' tl' at' h2 (by rw [aftr_succ, hr, h4])
    rw [askd_succ, hr] at ih
    rw [tattlelaw08_TurnAll.l0, e1, if_pos (by omega), h1, Option.bind_some]
    simp only [if_true]
    rw [many_eq k l _ (by omega) (by omega), Option.bind_some, if_pos (by rw [hcnt]; rfl), if_pos (by omega), w64_id _ y.1 y.2]
    exact ih
theorem TurnAll : tattlelaw08_TurnAll.Pure := by
  intro t0 at0 L0 p l0 _ _ _ _ _
  obtain ⟨L, hL, hsz⟩ := few_eq L0 p
  obtain ⟨l, hl, hll⟩ := few8a_eq l0
  obtain ⟨tl, ht, htl⟩ := few8a_eq t0
  obtain ⟨K, hK⟩ : ∃ K, 30000 ≤ K := ⟨30000, Nat.le_refl _⟩
  refine ⟨K + 1, ?_⟩
  have hbad : tattlelaw08_TurnAll.j0 (K + 1) l true tl at0 L p = some true := by
    rw [tattlelaw08_TurnAll.j0, if_pos rfl]
    rfl
  unfold tattlelaw08_TurnAll.f
  rw [ht, Option.bind_some, hL, Option.bind_some, hl, Option.bind_some]
  simp only
  by_cases h : (l.length : Int) > 10
  · rw [if_pos h, hbad]
  rw [if_neg h]
  by_cases h0 : (l.length : Int) = 0
  · rw [if_pos h0, hbad]
  rw [if_neg h0, nodes_eq l (by omega) _ (by omega), Option.bind_some]
  by_cases hs : nodesok l = true
  · rw [if_pos hs, if_pos rfl]
    unfold turn_Check.f turn_distinct.f
    rw [Option.bind_some]
    cases hd : distd tl with
    | false =>
      rw [if_neg (by decide), Option.bind_some, if_neg (by decide), hbad]
    | true =>
      rw [if_pos rfl]
      by_cases h1 : at0 < 0
      · rw [if_pos h1, Option.bind_some, if_neg (by decide), hbad]
      rw [if_neg h1]
      by_cases h2 : at0 > (tl.length : Int)
      · rw [if_pos h2, Option.bind_some, if_neg (by decide), hbad]
      rw [if_neg h2, Option.bind_some, if_pos rfl, rmay_eq, Option.bind_some]
      by_cases hp : mayd L p
      · rw [decide_eq_true hp, tattlelaw08_TurnAll.j0, if_neg (by decide)]
        obtain ⟨at_, rfl⟩ := Int.eq_ofNat_of_zero_le (show 0 ≤ at0 by omega)
        have hv : Vt L l tl at_ p := ⟨htl, by omega, hd, hp⟩
        exact all_l0 l (by omega) (by omega) hs L hsz (rest l tl at_, p) (rest_va hv) (6 * l.length) 0 K (by omega) (by omega) p tl at_ hv rfl
      · rw [decide_eq_false hp]
        exact hbad
  · rw [if_neg hs, if_neg (by decide), hbad]
end Go.Proofs.Ytlanodnbdgiihaa.Pure
