/- TurnShuffles, over numbers and lists alone: the printed function answers true at every input. -/
import Derived.Test.YtlanodnbdgiihaaFnx13
import Derived.Test.YtlanodnbdgiihaaFnx19
import Derived.Test.YtlanodnbdgiihaaSayTurnShuffles
import Derived.Test.YtlanodnbdgiihaaTurn2
namespace Go.Proofs.Ytlanodnbdgiihaa.Pure
open Go.RowKit Go.Proofs.Ytlanodnbdgiihaa.Fn Go.Proofs.YtlanodnbdgiihaaW.PrintWords Go.Proofs.YtlanodnbdgiihaaW.PrintMore Go.Proofs.Ytlanodnbdgiihaa.Dice

theorem few8_eq (l : List Int) : ∃ l', tattlelaw08_Few.f l = some l' ∧ l'.length ≤ 65 := by
  unfold tattlelaw08_Few.f
  by_cases h : (l.length : Int) > 65
  · rw [if_pos h, if_pos (by omega)]
    exact ⟨_, rfl, by rw [List.length_take]; omega⟩
  · rw [if_neg h]
    exact ⟨_, rfl, by omega⟩
theorem shuffles_l0 (L : ByteArray) (hL : L.size ≤ 400) (q : Int) (hq : mayd L q) (l O : List Int) (hl : l.length ≤ 12) (h0 : 0 < l.length) (hs : nodesok l = true) (hO : O.Perm l) (hd : distd O = true) :
    ∀ (d i k : Nat), i + d = l.length → d + 400 ≤ k → tattlelaw08_TurnShuffles.l0 k l O (i : Int) L q O (i : Int) L q = some true
  | 0, i, k, hi, hk => by
    obtain ⟨k, rfl⟩ : ∃ m, k = m + 1 := ⟨k - 1, by omega⟩
    rw [tattlelaw08_TurnShuffles.l0, if_neg (by omega)]
    rfl
  | d + 1, i, k, hi, hk => by
    obtain ⟨k, rfl⟩ : ∃ m, k = m + 1 := ⟨k - 1, by omega⟩
    have hOl := hO.length_eq
    have ih := shuffles_l0 L hL q hq l O hl h0 hs hO hd d (i + 1) k (by omega) (by omega)
    have hiO : i < O.length := by omega
    have hmem : O.getD i 0 ∈ l := by
      rw [← hO.mem_iff]
      simp [hiO]
    have y : -9223372036854775808 ≤ (i : Int) + 1 ∧ (i : Int) + 1 ≤ 9223372036854775807 := by omega
    rw [tattlelaw08_TurnShuffles.l0, if_pos (by omega), next_eq k (by omega) L (by omega) q hq l (by omega) h0 hs O i (by omega) (by omega) hd, nxt_in L O i q l hiO hmem, Option.bind_some]
    simp only [if_true, rd_nat]
    rw [if_pos (by omega), if_pos (by omega), w64_id _ y.1 y.2]
    simp only [beq_self_eq_true, Bool.not_true, Bool.or_self, Bool.false_eq_true, if_false]
    exact ih
theorem shuffles_j0 (K : Nat) (hK : 600 ≤ K) (L : ByteArray) (hL : L.size ≤ 400) (p : Int) (hp : mayd L p) (l : List Int) (hl : l.length ≤ 12) (hs : nodesok l = true) : tattlelaw08_TurnShuffles.j0 (K + 3) l false L p = some true := by
  have hlen := shf_length L (l.length - 1) l p
  have hpl := shf_place (l.length - 1) l p hp
  have hpm := shf_perm (l.length - 1) l p hp (by omega)
  have hbne : (((shf L (l.length - 1) l p).1.length : Int) != (l.length : Int)) = false := by rw [hlen]; simp
  rw [tattlelaw08_TurnShuffles.j0, if_neg (by decide), shuffle_eq L p l (by omega), if_pos ⟨hp, by omega⟩, Option.bind_some]
  simp only [if_true]
  rw [hbne, tattlelaw08_TurnShuffles.j1, if_neg (by decide)]
  by_cases h0 : l.length = 0
  · rw [tattlelaw08_TurnShuffles.l0, if_neg (by omega)]
    rfl
  · have hd : distd l = true := by
      unfold nodesok at hs
      rw [Bool.and_eq_true] at hs
      exact hs.1
    have ih := shuffles_l0 L hL (shf L (l.length - 1) l p).2 hpl.1 l (shf L (l.length - 1) l p).1 hl (by omega) hs hpm (distd_perm hpm hd) (l.length - 1) 1 K (by omega) (by omega)
    have hn := next_eq K (by omega) L (by omega) p hp l (by omega) (by omega) hs [] 0 (by simp) (by simp) (by decide)
    have he := nxt_end L [] p l
    rw [List.length_nil] at he
    rw [he] at hn
    have z : wrap64 ((0 : Int) + 1) = ((1 : Nat) : Int) := by rw [w64_id _ (by omega) (by omega)]; rfl
    rw [tattlelaw08_TurnShuffles.l0, if_pos (by omega)]
    rw [show ((0 : Nat) : Int) = 0 from rfl] at hn
    rw [hn, Option.bind_some]
    simp only [if_true]
    rw [if_pos (by omega), if_pos (by omega), z]
    have hr : rd (shf L (l.length - 1) l p).1 0 = (shf L (l.length - 1) l p).1.getD 0 0 := rfl
    rw [hr, if_pos rfl]
    simp only [beq_self_eq_true, Bool.not_true, Bool.or_self, Bool.false_eq_true, if_false]
    exact ih
theorem TurnShuffles : tattlelaw08_TurnShuffles.Pure := by
  intro L0 p l0 _ _ _
  obtain ⟨L, hL, hsz⟩ := few_eq L0 p
  obtain ⟨l, hl, hll⟩ := few8_eq l0
  refine ⟨700 + 3, ?_⟩
  have hbad : tattlelaw08_TurnShuffles.j0 (700 + 3) l true L p = some true := by
    rw [tattlelaw08_TurnShuffles.j0, if_pos rfl]
    rfl
  unfold tattlelaw08_TurnShuffles.f
  rw [hL, Option.bind_some, hl, Option.bind_some]
  simp only
  by_cases h : (l.length : Int) > 12
  · rw [if_pos h, hbad]
  · rw [if_neg h, nodes_eq l (by omega) _ (by omega), Option.bind_some]
    by_cases hs : nodesok l = true
    · rw [if_pos hs, if_pos rfl, rmay_eq, Option.bind_some]
      by_cases hp : mayd L p
      · rw [decide_eq_true hp]
        exact shuffles_j0 700 (by decide) L hsz p hp l (by omega) hs
      · rw [decide_eq_false hp]
        exact hbad
    · rw [if_neg hs, if_neg (by decide), hbad]
end Go.Proofs.Ytlanodnbdgiihaa.Pure
