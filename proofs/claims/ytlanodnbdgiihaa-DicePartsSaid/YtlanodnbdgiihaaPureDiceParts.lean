/- DiceParts, over numbers and lists alone: the printed function answers true at every input. -/
import Derived.Test.YtlanodnbdgiihaaFnx17
import Derived.Test.YtlanodnbdgiihaaSayDiceParts
import Derived.Test.YtlanodnbdgiihaaDice2
namespace Go.Proofs.Ytlanodnbdgiihaa.Pure
open Go.RowKit Go.Proofs.Ytlanodnbdgiihaa.Fn Go.Proofs.YtlanodnbdgiihaaW.PrintWords Go.Proofs.YtlanodnbdgiihaaW.PrintMore Go.Proofs.Ytlanodnbdgiihaa.Dice

theorem parts_j1 (K : Nat) (L : ByteArray) (p q : Int) (hs : L.size ≤ 400) (hq : mayd L q) : tattlelaw02_DiceParts.j1 (K + 1) false L p L q = some true := by
  have h2 : (L ++ L).size = L.size + L.size := ByteArray.size_append
  have hq2 : mayd (L ++ L) q := ⟨hq.1, by have := hq.2; omega⟩
  rw [tattlelaw02_DiceParts.j1, if_neg (by decide), below_eq L q 256 (by omega), if_pos ⟨hq, by decide, by decide⟩, Option.bind_some, if_pos (by omega), below_eq (L ++ L) q 256 (by omega), if_pos ⟨hq2, by decide, by decide⟩, Option.bind_some]
  by_cases e : q = (L.size : Int)
  · have hd : dr L q 256 = (0, q) := by
      unfold dr
      rw [if_pos e]
    rw [hd]
    simp [awake2_eq, e]
  · have hlt : q < (L.size : Int) := by have := hq.2; omega
    have hd : (dr L q 256).1 = (dr (L ++ L) q 256).1 := by
      obtain ⟨i, rfl⟩ : ∃ i : Nat, q = (i : Int) := ⟨q.toNat, by have := hq.1; omega⟩
      unfold dr
      rw [if_neg e, if_neg (by omega), bt_left L L i (by omega)]
    simp only [if_true]
    rw [if_neg e, if_pos hlt, hd]
    simp [awake2_eq]
theorem parts_j0 (K : Nat) (hK : 600 ≤ K) (L : ByteArray) (p q : Int) (l P : List Int) (c : Nat) (hs : L.size ≤ 400) (hq : mayd L q) (hP : P.length ≤ 257) (hl : l.length < 2 → q = p) :
    tattlelaw02_DiceParts.j0 (K + 2) l P (P.take c) false L p L q L q = some true := by
  have hT : (P.take c).length ≤ P.length := by rw [List.length_take]; omega
  have hTT : P.take (((P.take c).length : Int)).toNat = P.take c := by
    rw [Int.toNat_natCast, List.length_take]
    by_cases h : c ≤ P.length
    · rw [Nat.min_eq_left h]
    · rw [Nat.min_eq_right (by omega), List.take_of_length_le (Nat.le_refl _), List.take_of_length_le (by omega)]
  have hj := parts_j1 K L p q hs hq
  rw [tattlelaw02_DiceParts.j0, if_neg (by decide), if_neg (by simp), if_neg (by omega), if_pos (by omega), if_pos (by omega), hTT, same_eq (K + 1) _ _ (by omega) (by omega), Option.bind_some, if_pos (by simp)]
  by_cases h : (l.length : Int) < 2
  · have e : (!(L.toList == L.toList) || !(q == p)) = false := by simp [hl (by omega)]
    rw [if_pos h, e, hj]
  · rw [if_neg h, hj]
theorem DiceParts : tattlelaw02_DiceParts.Pure := by
  intro L0 p l0 n _ _ _ _
  obtain ⟨L, hL, hs⟩ := few_eq L0 p
  refine ⟨700 + 2, ?_⟩
  unfold tattlelaw02_DiceParts.f
  rw [hL, Option.bind_some, cut_eq, Option.bind_some]
  have hl : (l0.take 257).length ≤ 257 := by rw [List.length_take]; omega
  generalize l0.take 257 = l at hl
  simp only
  rw [shuffle_eq L p l (by omega), Option.bind_some, pick_eq L p l n (by omega), Option.bind_some]
  have hbad : ∀ (P : List Int) (r s : ByteArray) (t u : Int), tattlelaw02_DiceParts.j0 (700 + 2) l P [] true L p r t s u = some true := by
    intro P r s t u
    rw [tattlelaw02_DiceParts.j0, if_pos rfl]
    simp [awake2_eq]
  by_cases h : mayd L p ∧ l.length ≤ 256
  · rw [if_pos h]
    have hp := shf_place (l.length - 1) l p h.1
    by_cases hn : 0 ≤ n
    · rw [if_pos (c := mayd L p ∧ l.length ≤ 256 ∧ 0 ≤ n) ⟨h.1, h.2, hn⟩]
      simp only [if_true]
      have e : ((0 : Int) != 0) = false := by decide
      rw [e]
      refine parts_j0 700 (by decide) L p _ l _ _ hs hp.1 (by rw [shf_length]; exact hl) ?_
      intro h2
      rw [show l.length - 1 = 0 by omega]
      rfl
    · rw [if_neg (c := mayd L p ∧ l.length ≤ 256 ∧ 0 ≤ n) (fun h' => hn h'.2.2)]
      simp only [if_true]
      exact hbad _ _ _ _ _
  · rw [if_neg h, if_neg (c := mayd L p ∧ l.length ≤ 256 ∧ 0 ≤ n) (fun h' => h ⟨h'.1, h'.2.1⟩)]
    exact hbad [] L L p p
end Go.Proofs.Ytlanodnbdgiihaa.Pure
