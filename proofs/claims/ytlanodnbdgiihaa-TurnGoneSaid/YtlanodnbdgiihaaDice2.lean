/- More of dice: picks, how often a number stands in a list, octets of joined strings; plain facts. -/
import Derived.Test.YtlanodnbdgiihaaFnx2
import Derived.Test.YtlanodnbdgiihaaFnx6
import Derived.Test.YtlanodnbdgiihaaFnx8
import Derived.Test.YtlanodnbdgiihaaDice
namespace Go.Proofs.Ytlanodnbdgiihaa.Dice
open Go.RowKit Go.Proofs.Ytlanodnbdgiihaa.Fn Go.Proofs.YtlanodnbdgiihaaW.PrintWords Go.Proofs.YtlanodnbdgiihaaW.PrintMore

theorem check_eq (L : ByteArray) (p : Int) : dice_Check.f L p = some (if mayd L p then 0 else 1) := by
  unfold dice_Check.f
  by_cases h : p < 0
  · rw [if_pos h, if_neg (fun q : mayd L p => by have := q.1; omega)]
  · rw [if_neg h]
    by_cases h2 : p > (L.size : Int)
    · rw [if_pos h2, if_neg (fun q : mayd L p => by have := q.2; omega)]
    · rw [if_neg h2, if_pos (show mayd L p from ⟨by omega, by omega⟩)]
theorem rpick_l0 (L : ByteArray) (p x2 : Int) (a : List Int) (ha : a.length ≤ 1000000) (h0 : 0 ≤ x2) : ∀ (d i k : Nat), i + d = a.length → (i = 0 ∨ (i : Int) ≤ x2) → d + 1 ≤ k →
    tattleref02_Pick.l0 k x2 a (a.take i) (i : Int) L p = some (a.take (max i (min x2.toNat a.length)), L, p, 0)
  | 0, i, k, hi, _, hk => by
    obtain ⟨k, rfl⟩ : ∃ m, k = m + 1 := ⟨k - 1, by omega⟩
    rw [tattleref02_Pick.l0, if_neg (by omega), show max i (min x2.toNat a.length) = i by omega]
  | d + 1, i, k, hi, hx, hk => by
    obtain ⟨k, rfl⟩ : ∃ m, k = m + 1 := ⟨k - 1, by omega⟩
    have hlt : i < a.length := by omega
    rw [tattleref02_Pick.l0, if_pos (by omega)]
    by_cases h : (i : Int) < x2
    · have ew : wrap64 ((i : Int) + 1) = ((i + 1 : Nat) : Int) := by rw [w64_id _ (by omega) (by omega)]; rfl
      have et : a.take i ++ [rd a (i : Int)] = a.take (i + 1) := by
        rw [List.take_succ_eq_append_getElem hlt, rd_nat]
        simp [hlt]
      rw [if_pos h, if_pos (by omega), if_pos (by rw [List.length_take]; omega), et, ew, rpick_l0 L p x2 a ha h0 d (i + 1) k (by omega) (Or.inr (by omega)) (by omega),
        show max (i + 1) (min x2.toNat a.length) = max i (min x2.toNat a.length) by omega]
    · rw [if_neg h, show max i (min x2.toNat a.length) = i by omega]
theorem rpick_eq (k : Nat) (L : ByteArray) (p : Int) (l : List Int) (n : Int) (hs : L.size ≤ 1000000) (hk : 600 ≤ k) :
    tattleref02_Pick.f k L p l n = some (if mayd L p ∧ l.length ≤ 256 ∧ 0 ≤ n then ((shf L (l.length - 1) l p).1.take (min n.toNat l.length), L, (shf L (l.length - 1) l p).2, 0) else ([], L, p, 1)) := by
  have hbad : ∀ k, 1 ≤ k → tattleref02_Pick.j0 k l n true L p = some ([], L, p, 1) := by
    intro k hk
    obtain ⟨k, rfl⟩ : ∃ m, k = m + 1 := ⟨k - 1, by omega⟩
    rw [tattleref02_Pick.j0, if_pos rfl]
  unfold tattleref02_Pick.f
  rw [rmay_eq, Option.bind_some]
  by_cases h : mayd L p
  · rw [if_pos (by simpa using h)]
    by_cases hl : l.length ≤ 256
    · rw [if_neg (by omega)]
      by_cases hn : 0 ≤ n
      · have e : decide (n < 0) = false := by simp; omega
        obtain ⟨k, rfl⟩ : ∃ m, k = m + 1 := ⟨k - 1, by omega⟩
        rw [e, tattleref02_Pick.j0, if_neg (by decide), rshuffle_eq k L p l hs (by omega), if_pos ⟨h, hl⟩, Option.bind_some, if_pos ⟨h, hl, hn⟩]
        have hr := rpick_l0 L (shf L (l.length - 1) l p).2 n (shf L (l.length - 1) l p).1 (by rw [shf_length]; omega) hn l.length 0 k (by rw [shf_length]; omega) (Or.inl rfl) (by omega)
        rw [shf_length, Nat.zero_max, List.take_zero] at hr
        exact hr
      · have e : decide (n < 0) = true := by simp; omega
        rw [e, hbad k (by omega), if_neg (by omega)]
    · rw [if_pos (by omega), hbad k (by omega), if_neg (by omega)]
  · rw [if_neg (by simpa using h), hbad k (by omega), if_neg (fun h' => h h'.1)]
theorem many_l0 (l : List Int) (n : Int) (hm : l.length ≤ 1000000) : ∀ (d i k : Nat) (c : Nat), i + d = l.length → c ≤ i → d + 1 ≤ k → tattleref02_Many.l0 k l n (c : Int) (i : Int) = some (((c + (l.drop i).count n : Nat)) : Int)
  | 0, i, k, c, hi, _, hk => by
    obtain ⟨k, rfl⟩ : ∃ m, k = m + 1 := ⟨k - 1, by omega⟩
    rw [tattleref02_Many.l0, if_neg (by omega), List.drop_of_length_le (by omega)]
    simp
  | d + 1, i, k, c, hi, hc, hk => by
    obtain ⟨k, rfl⟩ : ∃ m, k = m + 1 := ⟨k - 1, by omega⟩
    have hlt : i < l.length := by omega
    have ew : wrap64 ((i : Int) + 1) = ((i + 1 : Nat) : Int) := by rw [w64_id _ (by omega) (by omega)]; rfl
    have ew2 : wrap64 ((c : Int) + 1) = ((c + 1 : Nat) : Int) := by rw [w64_id _ (by omega) (by omega)]; rfl
    have er : rd l (i : Int) = l[i] := by rw [rd_nat]; simp [hlt]
    rw [tattleref02_Many.l0, if_pos (by omega), if_pos (by omega), er, ew, ew2, List.drop_eq_getElem_cons hlt, List.count_cons]
    by_cases h : l[i] = n
    · rw [if_pos h, many_l0 l n hm d (i + 1) k (c + 1) (by omega) (by omega) (by omega)]
      simp only [h, beq_self_eq_true, if_true]
      congr 2
      omega
    · rw [if_neg h, many_l0 l n hm d (i + 1) k c (by omega) (by omega) (by omega)]
      simp only [beq_iff_eq, h, if_false, Nat.add_zero]
theorem many_eq (k : Nat) (l : List Int) (n : Int) (hm : l.length ≤ 1000000) (hk : l.length + 1 ≤ k) : tattleref02_Many.f k l n = some ((l.count n : Nat) : Int) := by
  have := many_l0 l n hm l.length 0 k 0 (by omega) (Nat.le_refl _) hk
  rw [List.drop_zero, Nat.zero_add] at this
  exact this
theorem bt_nat (s : ByteArray) (i : Nat) (h : i < s.size) : bt s (i : Int) = ((s[i]'h).toNat : Int) := by
  unfold bt
  simp only [Int.toNat_natCast]
  rw [dif_pos h]
theorem bt_left (a b : ByteArray) (i : Nat) (h : i < a.size) : bt (a ++ b) (i : Int) = bt a (i : Int) := by
  rw [bt_nat a i h, bt_nat (a ++ b) i (by rw [ByteArray.size_append]; omega), ByteArray.getElem_append_left h]
theorem bt_right (a b : ByteArray) (i : Nat) (h : i < b.size) : bt (a ++ b) ((a.size + i : Nat) : Int) = bt b (i : Int) := by
  rw [bt_nat b i h, bt_nat (a ++ b) (a.size + i) (by rw [ByteArray.size_append]; omega), ByteArray.getElem_append_right (by omega)]
  simp
theorem bt_mid (s : ByteArray) (a b i : Nat) (h : a + i < b) (hb : b ≤ s.size) : bt (s.extract a b) (i : Int) = bt s ((a + i : Nat) : Int) := by
  have hi : i < (s.extract a b).size := by rw [ByteArray.size_extract]; omega
  rw [bt_nat _ i hi, bt_nat s (a + i) (by omega), ByteArray.getElem_extract hi]
/-- Where no draw meets the end, other octets behind and ahead play no part. -/
theorem shf_same (L L' : ByteArray) : ∀ (i : Nat) (l : List Int) (p p' : Int), mayd L p → 0 ≤ p' → (shf L i l p).2 = p + i → (∀ j : Nat, j < i → p' + j < (L'.size : Int) ∧ bt L' (p' + j) = bt L (p + j)) → shf L' i l p' = ((shf L i l p).1, p' + i)
  | 0, l, p, p', _, _, _, _ => by simp [shf]
  | i + 1, l, p, p', hp, hp', he, hj => by
    have hd := dr_in (m := (i : Int) + 2) hp (by omega)
    have h2 := shf_place i (swp l (i + 1) (dr L p ((i : Int) + 2)).1.toNat) (dr L p ((i : Int) + 2)).2 hd.2.2.1
    rw [shf] at he ⊢
    rw [shf]
    have hq : (dr L p ((i : Int) + 2)).2 = p + 1 := by omega
    have hne : p ≠ (L.size : Int) := by
      intro e
      unfold dr at hq
      rw [if_pos e] at hq
      simp only at hq
      omega
    have h0 := hj 0 (by omega)
    simp only [Int.natCast_zero, Int.add_zero] at h0
    have e1 : dr L' p' ((i : Int) + 2) = ((dr L p ((i : Int) + 2)).1, p' + 1) := by
      unfold dr
      rw [if_neg hne, if_neg (by omega), h0.2]
    rw [e1, hq]
    rw [hq] at he
    have := shf_same L L' i (swp l (i + 1) (dr L p ((i : Int) + 2)).1.toNat) (p + 1) (p' + 1) (by rw [← hq]; exact hd.2.2.1) (by omega) (by omega) (fun j hji => by
      have := hj (j + 1) (by omega)
      rw [show p' + 1 + (j : Int) = p' + ((j + 1 : Nat) : Int) by omega, show p + 1 + (j : Int) = p + ((j + 1 : Nat) : Int) by omega]
      exact this)
    rw [this, show p' + 1 + (i : Int) = p' + ((i + 1 : Nat) : Int) by omega]
end Go.Proofs.Ytlanodnbdgiihaa.Dice
