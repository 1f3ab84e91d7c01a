/- DiceKeeps, over numbers and lists alone: the printed function answers true at every input. -/
import Derived.Test.YtlanodnbdgiihaaFnx14
import Derived.Test.YtlanodnbdgiihaaSayDiceKeeps
import Derived.Test.YtlanodnbdgiihaaDice2
namespace Go.Proofs.Ytlanodnbdgiihaa.Pure
open Go.RowKit Go.Proofs.Ytlanodnbdgiihaa.Fn Go.Proofs.YtlanodnbdgiihaaW.PrintWords Go.Proofs.YtlanodnbdgiihaaW.PrintMore Go.Proofs.Ytlanodnbdgiihaa.Dice

theorem keeps_l0 (l : List Int) (n : Int) (P Q : List Int) (f : Int) (hf : ((f == 0) == decide (n ≥ 0)) = true) (hl : l.length ≤ 257) (hPl : P.length ≤ 257) (hQl : Q.length ≤ 257) (hP : ∀ x, P.count x = l.count x) (hQ : ∀ x, Q.count x ≤ l.count x) :
    ∀ (d i k : Nat), i + d = l.length → d + 300 ≤ k → tattlelaw02_DiceKeeps.l0 k l n P Q f (i : Int) = some true
  | 0, i, k, hi, hk => by
    obtain ⟨k, rfl⟩ : ∃ m, k = m + 1 := ⟨k - 1, by omega⟩
    rw [tattlelaw02_DiceKeeps.l0, if_neg (by omega), if_pos hf]
    rfl
  | d + 1, i, k, hi, hk => by
    obtain ⟨k, rfl⟩ : ∃ m, k = m + 1 := ⟨k - 1, by omega⟩
    have ew : wrap64 ((i : Int) + 1) = ((i + 1 : Nat) : Int) := by rw [w64_id _ (by omega) (by omega)]; rfl
    have h1 := keeps_l0 l n P Q f hf hl hPl hQl hP hQ d (i + 1) k (by omega) (by omega)
    have hq := hQ (rd l (i : Int))
    rw [tattlelaw02_DiceKeeps.l0, if_pos (by omega), if_pos (by omega), many_eq k P _ (by omega) (by omega), many_eq k l _ (by omega) (by omega), many_eq k Q _ (by omega) (by omega)]
    simp only [Option.bind_some, hP, if_true, ew, h1]
    rw [if_neg (by omega)]
theorem keeps_j0 (K : Nat) (hK : 600 ≤ K) (l : List Int) (n : Int) (P Q : List Int) (f : Int) (hf : ((f == 0) == decide (n ≥ 0)) = true) (hl : l.length ≤ 257) (hPl : P.length ≤ 257) (hQl : Q.length ≤ 257) (hP : ∀ x, P.count x = l.count x) (hQ : ∀ x, Q.count x ≤ l.count x) :
    tattlelaw02_DiceKeeps.j0 (K + 1) l n P Q f false = some true := by
  rw [tattlelaw02_DiceKeeps.j0, if_neg (by decide)]
  exact keeps_l0 l n P Q f hf hl hPl hQl hP hQ l.length 0 K (by omega) (by omega)
theorem DiceKeeps : tattlelaw02_DiceKeeps.Pure := by
  intro L0 p l0 n _ _ _ _
  obtain ⟨L, hL, hs⟩ := few_eq L0 p
  refine ⟨700 + 1, ?_⟩
  unfold tattlelaw02_DiceKeeps.f
  rw [hL, Option.bind_some, cut_eq, Option.bind_some]
  have hl : (l0.take 257).length ≤ 257 := by rw [List.length_take]; omega
  generalize l0.take 257 = l at hl
  simp only
  rw [shuffle_eq L p l (by omega), Option.bind_some, pick_eq L p l n (by omega), Option.bind_some]
  by_cases h : mayd L p ∧ l.length ≤ 256
  · rw [if_pos h]
    have hp := shf_place (l.length - 1) l p h.1
    by_cases hn : 0 ≤ n
    · rw [if_pos (c := mayd L p ∧ l.length ≤ 256 ∧ 0 ≤ n) ⟨h.1, h.2, hn⟩]
      have hj := keeps_j0 700 (by decide) l n (shf L (l.length - 1) l p).1 ((shf L (l.length - 1) l p).1.take (min n.toNat l.length)) 0 (by simp [hn]) hl (by rw [shf_length]; exact hl) (by rw [List.length_take, shf_length]; omega)
        (shf_count l p h.1) (fun x => by rw [← shf_count l p h.1 x]; exact (List.take_sublist _ _).count_le x)
      have em : mn n (l.length : Int) = ((min n.toNat l.length : Nat) : Int) := by unfold mn; split <;> omega
      simp only [if_true, shf_length, List.length_take, em]
      rw [if_neg (by omega)]
      have e : ((((min (min n.toNat l.length) l.length : Nat) : Int)) != ((min n.toNat l.length : Nat) : Int)) = false := by simp
      rw [e]
      exact hj
    · rw [if_neg (c := mayd L p ∧ l.length ≤ 256 ∧ 0 ≤ n) (fun h' => hn h'.2.2)]
      have hj := keeps_j0 700 (by decide) l n (shf L (l.length - 1) l p).1 [] 1 (by simp; omega) hl (by rw [shf_length]; exact hl) (by simp) (shf_count l p h.1) (fun x => by simp)
      simp only [if_true, shf_length]
      rw [if_neg (by omega), if_neg (by decide)]
      exact hj
  · rw [if_neg h, if_neg (c := mayd L p ∧ l.length ≤ 256 ∧ 0 ≤ n) (fun h' => h ⟨h'.1, h'.2.1⟩)]
    simp [awake2_eq]
end Go.Proofs.Ytlanodnbdgiihaa.Pure
