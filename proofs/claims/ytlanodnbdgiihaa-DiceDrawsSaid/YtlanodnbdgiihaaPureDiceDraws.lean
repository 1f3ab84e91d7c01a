/- DiceDraws, over numbers and lists alone: the printed function answers true at every input. -/
import Derived.Test.YtlanodnbdgiihaaFnx12
import Derived.Test.YtlanodnbdgiihaaSayDiceDraws
import Derived.Test.YtlanodnbdgiihaaDice2
namespace Go.Proofs.Ytlanodnbdgiihaa.Pure
open Go.RowKit Go.Proofs.Ytlanodnbdgiihaa.Fn Go.Proofs.YtlanodnbdgiihaaW.PrintWords Go.Proofs.YtlanodnbdgiihaaW.PrintMore Go.Proofs.Ytlanodnbdgiihaa.Dice

theorem draws_j1 (K : Nat) (hK : 700 ≤ K) (l : List Int) (n : Int) (L : ByteArray) (p : Int) (hs : L.size ≤ 400) (hl : l.length ≤ 257) : tattlelaw02_DiceDraws.j1 (K + 1) l n false L p = some true := by
  rw [tattlelaw02_DiceDraws.j1, if_neg (by decide), pick_eq L p l n (by omega), Option.bind_some, rpick_eq K L p l n (by omega) (by omega), Option.bind_some]
  have hx : ∃ X : List Int × ByteArray × Int × Int, (if mayd L p ∧ l.length ≤ 256 ∧ 0 ≤ n then ((shf L (l.length - 1) l p).1.take (min n.toNat l.length), L, (shf L (l.length - 1) l p).2, 0) else (([] : List Int), L, p, 1)) = X ∧ X.1.length ≤ 257 := by
    refine ⟨_, rfl, ?_⟩
    split
    · simp only [List.length_take, shf_length]; omega
    · simp
  obtain ⟨X, hX, hXl⟩ := hx
  rw [hX, same_eq K _ _ (by omega) (by omega), Option.bind_some]
  simp [awake2_eq]
theorem draws_j0 (K : Nat) (hK : 700 ≤ K) (l : List Int) (n : Int) (L : ByteArray) (p : Int) (hs : L.size ≤ 400) (hl : l.length ≤ 257) : tattlelaw02_DiceDraws.j0 (K + 2) l n false L p = some true := by
  rw [tattlelaw02_DiceDraws.j0, if_neg (by decide), shuffle_eq L p l (by omega), Option.bind_some, rshuffle_eq (K + 1) L p l (by omega) (by omega), Option.bind_some]
  have hx : ∃ X : List Int × ByteArray × Int × Int, (if mayd L p ∧ l.length ≤ 256 then ((shf L (l.length - 1) l p).1, L, (shf L (l.length - 1) l p).2, 0) else (([] : List Int), L, p, 1)) = X ∧ X.1.length ≤ 257 := by
    refine ⟨_, rfl, ?_⟩
    split
    · simp only [shf_length]; omega
    · simp
  obtain ⟨X, hX, hXl⟩ := hx
  rw [hX, same_eq (K + 1) _ _ (by omega) (by omega), Option.bind_some]
  simp [draws_j1 K hK l n L p hs hl]
theorem DiceDraws : tattlelaw02_DiceDraws.Pure := by
  intro L0 p l0 n _ _ _ _
  obtain ⟨L, hL, hs⟩ := few_eq L0 p
  refine ⟨700 + 2, ?_⟩
  unfold tattlelaw02_DiceDraws.f
  rw [hL, Option.bind_some, cut_eq, Option.bind_some]
  have hl : (l0.take 257).length ≤ 257 := by rw [List.length_take]; omega
  generalize l0.take 257 = l at hl
  simp only
  rw [below_eq L p n (by omega), Option.bind_some, rbelow_eq L p n (by omega), Option.bind_some]
  generalize (if mayd L p ∧ 1 ≤ n ∧ n ≤ 256 then ((dr L p n).1, L, (dr L p n).2, 0) else ((0 : Int), L, p, (1 : Int))) = X
  rw [check_eq, rmay_eq, Option.bind_some, Option.bind_some]
  have hj := draws_j0 700 (Nat.le_refl _) l n L p hs hl
  have e : (((if mayd L p then (0 : Int) else 1) == 0) != decide (mayd L p)) = false := by
    by_cases h : mayd L p <;> simp [h]
  rw [e]
  simp [hj]
end Go.Proofs.Ytlanodnbdgiihaa.Pure
