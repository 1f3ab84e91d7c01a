/- DiceEnds, over numbers and lists alone: the printed function answers true at every input. -/
import Derived.Test.YtlanodnbdgiihaaFnx16
import Derived.Test.YtlanodnbdgiihaaSayDiceEnds
import Derived.Test.YtlanodnbdgiihaaDice2
namespace Go.Proofs.Ytlanodnbdgiihaa.Pure
open Go.RowKit Go.Proofs.Ytlanodnbdgiihaa.Fn Go.Proofs.YtlanodnbdgiihaaW.PrintWords Go.Proofs.YtlanodnbdgiihaaW.PrintMore Go.Proofs.Ytlanodnbdgiihaa.Dice

theorem ends_l0 (L : ByteArray) (hs : L.size ≤ 400) (m : Int) (hm : 1 ≤ m ∧ m ≤ 256) : ∀ (d i k : Nat), i + d = L.size → d + 1 ≤ k → tattlelaw02_DiceEnds.l0 k m (i : Int) L (i : Int) = some true
  | 0, i, k, hi, hk => by
    obtain ⟨k, rfl⟩ : ∃ q, k = q + 1 := ⟨k - 1, by omega⟩
    have hd : dr L (i : Int) m = (0, (i : Int)) := by
      unfold dr
      rw [if_pos (by omega)]
    rw [tattlelaw02_DiceEnds.l0, if_neg (by omega), below_eq L _ m (by omega), if_pos ⟨⟨by omega, by omega⟩, hm.1, hm.2⟩, hd]
    simp [awake2_eq]
  | d + 1, i, k, hi, hk => by
    obtain ⟨k, rfl⟩ : ∃ q, k = q + 1 := ⟨k - 1, by omega⟩
    have ew : wrap64 ((i : Int) + 1) = ((i + 1 : Nat) : Int) := by rw [w64_id _ (by omega) (by omega)]; rfl
    have hb := bt_range L (i : Int)
    have eb : wrap64 (bt L (i : Int)) = bt L (i : Int) := w64_id _ (by omega) (by omega)
    have et : Int.tmod (bt L (i : Int)) m = bt L (i : Int) % m := Int.tmod_eq_emod_of_nonneg hb.1
    have hd : dr L (i : Int) m = (bt L (i : Int) % m, ((i + 1 : Nat) : Int)) := by
      unfold dr
      rw [if_neg (by omega)]
      rfl
    have ih := ends_l0 L hs m hm d (i + 1) k (by omega) (by omega)
    rw [tattlelaw02_DiceEnds.l0, if_pos (by omega), below_eq L _ m (by omega), if_pos ⟨⟨by omega, by omega⟩, hm.1, hm.2⟩, hd, Option.bind_some, ew, eb, et]
    simp only [if_true]
    rw [if_pos (by omega), if_neg (by omega), ih]
theorem DiceEnds : tattlelaw02_DiceEnds.Pure := by
  intro L0 p m _ _ hm
  obtain ⟨L, hL, hs⟩ := few_eq L0 p
  refine ⟨700 + 1, ?_⟩
  have hm' : 0 ≤ m ∧ m ≤ 255 := by
    simp [Lit.wf, IntKind.min, IntKind.max, IntKind.bits, IntKind.signed] at hm
    omega
  unfold tattlelaw02_DiceEnds.f
  rw [hL, Option.bind_some, rmay_eq, Option.bind_some]
  by_cases h : mayd L p
  · rw [if_pos (by simpa using h)]
    obtain ⟨i, rfl⟩ : ∃ i : Nat, p = (i : Int) := ⟨p.toNat, by have := h.1; omega⟩
    have h1 := h.2
    simp only at h1 ⊢
    rw [w64_id m (by omega) (by omega), w64_id (1 + m) (by omega) (by omega)]
    exact ends_l0 L hs (1 + m) (by omega) (L.size - i) i (700 + 1) (by omega) (by omega)
  · rw [if_neg (by simpa using h)]
    simp [awake2_eq]
end Go.Proofs.Ytlanodnbdgiihaa.Pure
