/- TurnTells, over numbers and lists alone: the printed function answers true at every input. -/
import Derived.Test.YtlanodnbdgiihaaFnx19
import Derived.Test.YtlanodnbdgiihaaFnx24
import Derived.Test.YtlanodnbdgiihaaFnx25
import Derived.Test.YtlanodnbdgiihaaSayTurnTells
import Derived.Test.YtlanodnbdgiihaaTurn4
namespace Go.Proofs.Ytlanodnbdgiihaa.Pure
open Go.RowKit Go.Proofs.Ytlanodnbdgiihaa.Fn Go.Proofs.YtlanodnbdgiihaaW.PrintWords Go.Proofs.YtlanodnbdgiihaaW.PrintMore Go.Proofs.Ytlanodnbdgiihaa.Dice

theorem zeq (b : Bool) : (((if b = true then (0 : Int) else 1) == 0) == b) = true := by cases b <;> rfl
theorem TurnTells : tattlelaw08_TurnTells.Pure := by
  intro t0 at0 L0 p l0 _ _ _ _ _
  obtain ⟨L, hL, hsz⟩ := few_eq L0 p
  obtain ⟨l, hl, hll⟩ := few8_all l0
  obtain ⟨tl, ht, htl⟩ := few8_all t0
  obtain ⟨K, hK⟩ : ∃ K, 3000 ≤ K := ⟨3000, Nat.le_refl _⟩
  refine ⟨K, ?_⟩
  have h1 := next_all K (by omega) L (by omega) p l hll tl at0 htl
  have h2 := rnext_all K (by omega) L (by omega) p l hll tl at0 htl
  have hx := nres_len L p l tl at0 hll htl
  generalize nres L p l tl at0 = r at h1 h2 hx
  obtain ⟨n, x, at', L', p', e⟩ := r
  simp only at hx
  have e1 : tattleref08_Same.f K x at' x at' = some true := by
    unfold tattleref08_Same.f
    rw [if_pos rfl, same_eq K x x (by omega) (by omega), Option.bind_some, decide_eq_true rfl]
  have e2 : turn_Same.f K tl at0 x at' = tattleref08_Same.f K tl at0 x at' := by
    unfold turn_Same.f tattleref08_Same.f
    rw [same_eq K tl x (by omega) (by omega), equal_eq K tl x (by omega) (by omega)]
  have e3 : ∃ b, tattleref08_Same.f K tl at0 x at' = some b := by
    unfold tattleref08_Same.f
    rw [same_eq K tl x (by omega) (by omega), Option.bind_some]
    split
    · exact ⟨_, rfl⟩
    · exact ⟨_, rfl⟩
  obtain ⟨b, e3⟩ := e3
  unfold tattlelaw08_TurnTells.f
  rw [ht, Option.bind_some, hL, Option.bind_some, hl, Option.bind_some]
  simp only
  rw [h1, Option.bind_some, h2, Option.bind_some]
  simp only
  rw [if_pos trivial, e1, Option.bind_some, if_pos rfl, if_pos (by simp), if_pos trivial, tcheck_eq, Option.bind_some, rmay8_eq K tl at0 (by omega) (by omega), Option.bind_some, zeq, if_pos rfl, nodes_eq l (by omega) K (by omega), Option.bind_some, rnodes_eq K l (by omega) (by omega), Option.bind_some, zeq, if_pos rfl, e2, e3, Option.bind_some, Option.bind_some, if_pos (by simp)]
  rfl
end Go.Proofs.Ytlanodnbdgiihaa.Pure
