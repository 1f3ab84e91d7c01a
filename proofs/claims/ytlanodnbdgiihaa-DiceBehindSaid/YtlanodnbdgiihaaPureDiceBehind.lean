/- DiceBehind, over numbers and lists alone: the printed function answers true at every input. -/
import Derived.Test.YtlanodnbdgiihaaFnx15
import Derived.Test.YtlanodnbdgiihaaSayDiceBehind
import Derived.Test.YtlanodnbdgiihaaDice2
namespace Go.Proofs.Ytlanodnbdgiihaa.Pure
open Go.RowKit Go.Proofs.Ytlanodnbdgiihaa.Fn Go.Proofs.YtlanodnbdgiihaaW.PrintWords Go.Proofs.YtlanodnbdgiihaaW.PrintMore Go.Proofs.Ytlanodnbdgiihaa.Dice

theorem behind_j1 (K : Nat) (hK : 300 ≤ K) (A B L : ByteArray) (l : List Int) (p : Int) (hs : L.size ≤ 400) (hAB : A.size + B.size ≤ 200) (hp : mayd L p) (hl : l.length ≤ 256) :
    tattlelaw02_DiceBehind.j1 (K + 1) A B l (shf L (l.length - 1) l p).1 false L p L (shf L (l.length - 1) l p).2 = some true := by
  have h2 := shf_place (l.length - 1) l p hp
  have hp0 := hp.1
  have hp1 := hp.2
  have hq1 := h2.1.2
  have hle := shf_length L (l.length - 1) l p
  generalize hq : (shf L (l.length - 1) l p).2 = q at h2 hq1
  have ew : wrap64 (q - p) = q - p := w64_id _ (by omega) (by omega)
  have ew2 : wrap64 ((l.length : Int) - 1) = (l.length : Int) - 1 := w64_id _ (by omega) (by omega)
  rw [tattlelaw02_DiceBehind.j1, if_neg (by decide), ew, ew2]
  by_cases hlt : q - p < (l.length : Int) - 1
  · rw [if_pos hlt]
    simp [awake2_eq]
  · have hqe : q = p + ((l.length - 1 : Nat) : Int) := by omega
    have hx : (L.extract p.toNat q.toNat).size = q.toNat - p.toNat := by rw [ByteArray.size_extract]; omega
    have hA : (A ++ L.extract p.toNat q.toNat).size = A.size + (q.toNat - p.toNat) := by rw [ByteArray.size_append, hx]
    have hJ : ((A ++ L.extract p.toNat q.toNat) ++ B).size = A.size + (q.toNat - p.toNat) + B.size := by rw [ByteArray.size_append, hA]
    have hm : mayd ((A ++ L.extract p.toNat q.toNat) ++ B) (A.size : Int) := ⟨by omega, by omega⟩
    have hs2 := shf_same L ((A ++ L.extract p.toNat q.toNat) ++ B) (l.length - 1) l p (A.size : Int) hp (by omega) (by rw [hq]; exact hqe) (fun j hj => by
      refine ⟨by omega, ?_⟩
      have e1 := bt_left (A ++ L.extract p.toNat q.toNat) B (A.size + j) (by omega)
      have e2 := bt_right A (L.extract p.toNat q.toNat) j (by omega)
      have e3 := bt_mid L p.toNat q.toNat j (by omega) (by omega)
      rw [show (A.size : Int) + (j : Int) = ((A.size + j : Nat) : Int) by omega, e1, e2, e3]
      congr 1
      omega)
    have ew3 : wrap64 ((A.size : Int) + ((l.length - 1 : Nat) : Int) - (A.size : Int)) = ((l.length - 1 : Nat) : Int) := by rw [w64_id _ (by omega) (by omega)]; omega
    rw [if_neg hlt, if_pos hp0, if_pos (by omega), if_pos hq1, if_pos (by omega), if_pos (by omega), shuffle_eq _ _ l (by omega), if_pos ⟨hm, hl⟩, hs2, Option.bind_some, same_eq K _ _ (by omega) (by omega), Option.bind_some]
    simp only [decide_true, if_true, ew3]
    rw [if_pos (by omega)]
    simp [awake2_eq]
theorem behind_j0 (K : Nat) (hK : 300 ≤ K) (A B L : ByteArray) (l : List Int) (p : Int) (hs : L.size ≤ 400) (hAB : A.size + B.size ≤ 200) (hp : mayd L p) (hl : l.length ≤ 256) :
    tattlelaw02_DiceBehind.j0 (K + 2) A B l false L p = some true := by
  have h2 := shf_place (l.length - 1) l p hp
  have hj := behind_j1 K hK A B L l p hs hAB hp hl
  have hq1 := h2.1.2
  rw [tattlelaw02_DiceBehind.j0, if_neg (by decide), shuffle_eq L p l (by omega), if_pos ⟨hp, hl⟩, Option.bind_some]
  simp only [if_true]
  rw [if_neg (by omega), decide_eq_false (by omega), hj]
theorem DiceBehind : tattlelaw02_DiceBehind.Pure := by
  intro L0 p A B l0 _ _ hA hB _
  obtain ⟨L, hL, hs⟩ := few_eq L0 p
  refine ⟨700 + 2, ?_⟩
  unfold tattlelaw02_DiceBehind.f
  rw [hL, Option.bind_some, cut_eq, Option.bind_some]
  have hl : (l0.take 257).length ≤ 257 := by rw [List.length_take]; omega
  generalize l0.take 257 = l at hl
  simp only
  have hbad : tattlelaw02_DiceBehind.j0 (700 + 2) A B l true L p = some true := by
    rw [tattlelaw02_DiceBehind.j0, if_pos rfl]
    simp [awake2_eq]
  have ew : wrap64 ((A.size : Int) + (B.size : Int)) = (A.size : Int) + (B.size : Int) := w64_id _ (by omega) (by omega)
  rw [ew]
  by_cases h : (A.size : Int) + (B.size : Int) > 200
  · rw [if_pos h, hbad]
  · rw [if_neg h, rmay_eq, Option.bind_some]
    by_cases hp : mayd L p
    · rw [if_pos (by simpa using hp)]
      by_cases hl2 : l.length ≤ 256
      · rw [decide_eq_false (by omega)]
        exact behind_j0 700 (by decide) A B L l p hs (by omega) hp hl2
      · rw [decide_eq_true (by omega), hbad]
    · rw [if_neg (by simpa using hp), hbad]
end Go.Proofs.Ytlanodnbdgiihaa.Pure
