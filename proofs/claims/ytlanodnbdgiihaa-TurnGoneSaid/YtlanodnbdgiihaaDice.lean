/- What the functions of package dice, and the document's answer for them, come to: plain facts on numbers and lists. -/
import Derived.Test.YtlanodnbdgiihaaAw25
import Derived.Test.YtlanodnbdgiihaaFnx2
import Derived.Test.YtlanodnbdgiihaaFnx3
import Derived.Test.YtlanodnbdgiihaaFnx4
import Derived.Test.YtlanodnbdgiihaaFnx5
import Derived.Test.YtlanodnbdgiihaaExBelow
import Derived.Test.YtlanodnbdgiihaaExShuffle
namespace Go.Proofs.Ytlanodnbdgiihaa.Dice
open Go.RowKit Go.Proofs.Ytlanodnbdgiihaa.Fn Go.Proofs.YtlanodnbdgiihaaW.PrintWords Go.Proofs.YtlanodnbdgiihaaW.PrintMore

/-- What is drawn below m, and the place then. -/
def dr (L : ByteArray) (p m : Int) : Int × Int := if p = (L.size : Int) then (0, p) else (bt L p % m, p + 1)
/-- May dice be? -/
def mayd (L : ByteArray) (p : Int) : Prop := 0 ≤ p ∧ p ≤ (L.size : Int)
instance (L : ByteArray) (p : Int) : Decidable (mayd L p) := inferInstanceAs (Decidable (_ ∧ _))
/-- A list shuffled from place i down, and the place then. -/
def shf (L : ByteArray) : Nat → List Int → Int → List Int × Int
  | 0, l, p => (l, p)
  | i + 1, l, p => shf L i (swp l (i + 1) (dr L p ((i : Int) + 2)).1.toNat) (dr L p ((i : Int) + 2)).2

theorem dr_in {L : ByteArray} {p m : Int} (h : mayd L p) (hm : 1 ≤ m) : 0 ≤ (dr L p m).1 ∧ (dr L p m).1 < m ∧ mayd L (dr L p m).2 ∧ p ≤ (dr L p m).2 ∧ (dr L p m).2 ≤ p + 1 := by
  unfold dr
  have hb := bt_range L p
  split
  · exact ⟨by omega, by simp only; omega, h, by omega, by omega⟩
  · refine ⟨Int.emod_nonneg _ (by omega), Int.emod_lt_of_pos _ (by omega), ?_, by omega, by omega⟩
    unfold mayd at *
    simp only
    omega
theorem w64_id (x : Int) (h0 : -9223372036854775808 ≤ x) (h : x ≤ 9223372036854775807) : wrap64 x = x := by
  unfold wrap64
  omega
theorem hand_eq {L : ByteArray} {p m : Int} (h : mayd L p) (hs : L.size ≤ 1000000) (hm : 1 ≤ m) : dice_hand_below.f L p m = some ((dr L p m).1, L, (dr L p m).2) := by
  obtain ⟨h0, h1⟩ := h
  unfold dice_hand_below.f dr
  by_cases e : p = (L.size : Int)
  · rw [if_pos e, if_pos e]
  · have hb := bt_range L p
    rw [if_neg e, if_neg e, w64_id (p + 1) (by omega) (by omega), show p + 1 - 1 = p by omega, w64_id p (by omega) (by omega), if_pos h0, if_pos (by omega), if_neg (by omega), w64_id (bt L p) (by omega) (by omega),
      Int.tmod_eq_emod_of_nonneg hb.1]
theorem below_eq (L : ByteArray) (p m : Int) (hs : L.size ≤ 1000000) : dice_Below.f L p m = some (if mayd L p ∧ 1 ≤ m ∧ m ≤ 256 then ((dr L p m).1, L, (dr L p m).2, 0) else (0, L, p, 1)) := by
  unfold dice_Below.f
  by_cases h : mayd L p ∧ 1 ≤ m ∧ m ≤ 256
  · rw [if_pos h, if_pos ⟨h.1.1, h.1.2, h.2.1, h.2.2⟩, hand_eq h.1 hs h.2.1]
    rfl
  · rw [if_neg h, if_neg (fun h' => h ⟨⟨h'.1, h'.2.1⟩, h'.2.2.1, h'.2.2.2⟩)]
theorem mixr_eq {L : ByteArray} (hs : L.size ≤ 1000000) : ∀ (i : Nat) (l : List Int) (p : Int), mayd L p → mixr L i l p = some (shf L i l p)
  | 0, l, p, _ => rfl
  | i + 1, l, p, h => by
    have hd := dr_in (m := (i : Int) + 2) h (by omega)
    rw [mixr, hand_eq h hs (by omega), Option.bind_some]
    exact mixr_eq hs i _ _ hd.2.2.1
theorem shuffle_eq (L : ByteArray) (p : Int) (l : List Int) (hs : L.size ≤ 1000000) : dice_Shuffle.f L p l = some (if mayd L p ∧ l.length ≤ 256 then ((shf L (l.length - 1) l p).1, L, (shf L (l.length - 1) l p).2, 0) else ([], L, p, 1)) := by
  unfold dice_Shuffle.f
  by_cases h : mayd L p ∧ l.length ≤ 256
  · rw [if_pos h, if_pos ⟨h.1.1, h.1.2, h.2⟩, mixr_eq hs _ _ _ h.1]
    rfl
  · rw [if_neg h, if_neg (fun h' => h ⟨⟨h'.1, h'.2.1⟩, h'.2.2⟩)]
theorem swp_length (l : List Int) (i k : Nat) : (swp l i k).length = l.length := by simp [swp]
theorem shf_length (L : ByteArray) : ∀ (i : Nat) (l : List Int) (p : Int), (shf L i l p).1.length = l.length
  | 0, _, _ => rfl
  | i + 1, l, p => by rw [shf, shf_length L i, swp_length]
theorem shf_place {L : ByteArray} : ∀ (i : Nat) (l : List Int) (p : Int), mayd L p → mayd L (shf L i l p).2 ∧ p ≤ (shf L i l p).2 ∧ (shf L i l p).2 ≤ p + i
  | 0, _, p, h => ⟨h, by simp [shf], by simp [shf]⟩
  | i + 1, l, p, h => by
    have hd := dr_in (m := (i : Int) + 2) h (by omega)
    have h2 := shf_place i (swp l (i + 1) (dr L p ((i : Int) + 2)).1.toNat) (dr L p ((i : Int) + 2)).2 hd.2.2.1
    rw [shf]
    exact ⟨h2.1, by omega, by omega⟩
theorem swp_perm (l : List Int) (i k : Nat) (hi : i < l.length) (hk : k < l.length) : (swp l i k).Perm l := by
  unfold swp
  have e1 : l.getD k 0 = l[k] := by simp [hk]
  have e2 : l.getD i 0 = l[i] := by simp [hi]
  rw [e1, e2]
  exact List.set_set_perm hi hk
theorem shf_perm {L : ByteArray} : ∀ (i : Nat) (l : List Int) (p : Int), mayd L p → (i = 0 ∨ i < l.length) → (shf L i l p).1.Perm l
  | 0, l, _, _, _ => List.Perm.refl l
  | i + 1, l, p, h, hi => by
    have hd := dr_in (m := (i : Int) + 2) h (by omega)
    have hi' : i + 1 < l.length := by omega
    rw [shf]
    refine (shf_perm i _ _ hd.2.2.1 (Or.inr (by rw [swp_length]; omega))).trans (swp_perm l (i + 1) _ hi' (by omega))
theorem shf_count {L : ByteArray} (l : List Int) (p : Int) (h : mayd L p) (n : Int) : (shf L (l.length - 1) l p).1.count n = l.count n :=
  (shf_perm _ l p h (by omega)).count_eq n
theorem pick_eq (L : ByteArray) (p : Int) (l : List Int) (k : Int) (hs : L.size ≤ 1000000) :
    dice_Pick.f L p l k = some (if mayd L p ∧ l.length ≤ 256 ∧ 0 ≤ k then ((shf L (l.length - 1) l p).1.take (min k.toNat l.length), L, (shf L (l.length - 1) l p).2, 0) else ([], L, p, 1)) := by
  unfold dice_Pick.f
  rw [shuffle_eq L p l hs, Option.bind_some]
  by_cases h : mayd L p ∧ l.length ≤ 256
  · rw [if_pos h]
    simp only [if_true]
    by_cases hk : k < 0
    · rw [if_pos hk, if_neg (by omega)]
    · have em : mn k ((shf L (l.length - 1) l p).1.length : Int) = ((min k.toNat l.length : Nat) : Int) := by
        rw [shf_length]
        unfold mn
        split <;> omega
      rw [if_neg hk, em, if_pos (by omega), if_pos (by rw [shf_length]; omega), if_pos ⟨h.1, h.2, by omega⟩]
      rfl
  · rw [if_neg h, if_neg (c := mayd L p ∧ l.length ≤ 256 ∧ 0 ≤ k) (fun h' => h ⟨h'.1, h'.2.1⟩)]
    rfl

/-! the document's answer -/
theorem rmay_eq (L : ByteArray) (p : Int) : tattleref02_May.f L p = some (decide (mayd L p)) := by
  unfold tattleref02_May.f mayd
  by_cases h : 0 ≤ p <;> simp [h]
theorem rdraw_eq {L : ByteArray} {p m : Int} (h : mayd L p) (hs : L.size ≤ 1000000) (hm : 1 ≤ m) : tattleref02_Draw.f L p m = some ((dr L p m).1, L, (dr L p m).2) := by
  obtain ⟨h0, h1⟩ := h
  unfold tattleref02_Draw.f dr
  by_cases e : p = (L.size : Int)
  · rw [if_pos e, if_pos e]
  · have hb := bt_range L p
    rw [if_neg e, if_neg e, if_pos h0, if_pos (by omega), if_neg (by omega), w64_id (bt L p) (by omega) (by omega), w64_id (p + 1) (by omega) (by omega), Int.tmod_eq_emod_of_nonneg hb.1]
theorem rbelow_eq (L : ByteArray) (p m : Int) (hs : L.size ≤ 1000000) : tattleref02_Below.f L p m = some (if mayd L p ∧ 1 ≤ m ∧ m ≤ 256 then ((dr L p m).1, L, (dr L p m).2, 0) else (0, L, p, 1)) := by
  unfold tattleref02_Below.f
  rw [rmay_eq, Option.bind_some]
  by_cases h : mayd L p
  · rw [if_pos (by simpa using h)]
    by_cases h1 : m < 1
    · rw [if_pos h1, if_neg (by omega)]
    · rw [if_neg h1]
      by_cases h2 : m > 256
      · rw [if_pos h2, if_neg (by omega)]
      · rw [if_neg h2, if_pos ⟨h, by omega, by omega⟩, rdraw_eq h hs (by omega)]
        rfl
  · rw [if_neg (by simpa using h), if_neg (fun h' => h h'.1)]
theorem rd_nat (l : List Int) (i : Nat) : rd l (i : Int) = l.getD i 0 := rfl
theorem rshuffle_l0 {L : ByteArray} (hs : L.size ≤ 1000000) : ∀ (i k : Nat) (l : List Int) (p : Int), mayd L p → i < l.length → l.length ≤ 256 → i + 1 ≤ k →
    tattleref02_Shuffle.l0 k l (i : Int) L p = some ((shf L i l p).1, L, (shf L i l p).2, 0)
  | 0, k, l, p, _, _, _, hk => by
    obtain ⟨k, rfl⟩ : ∃ m, k = m + 1 := ⟨k - 1, by omega⟩
    rw [tattleref02_Shuffle.l0, if_neg (by omega)]
    rfl
  | i + 1, k, l, p, h, hi, hl, hk => by
    obtain ⟨k, rfl⟩ : ∃ m, k = m + 1 := ⟨k - 1, by omega⟩
    have ew : wrap64 (((i + 1 : Nat) : Int) + 1) = (i : Int) + 2 := by rw [w64_id _ (by omega) (by omega)]; omega
    have ew2 : wrap64 (((i + 1 : Nat) : Int) - 1) = (i : Int) := by rw [w64_id _ (by omega) (by omega)]; omega
    have hd := dr_in (m := (i : Int) + 2) h (by omega)
    rw [tattleref02_Shuffle.l0, if_pos (by omega), ew, rdraw_eq h hs (by omega), Option.bind_some, ew2]
    simp only
    obtain ⟨j, hj⟩ : ∃ j : Nat, (dr L p ((i : Int) + 2)).1 = (j : Int) := ⟨(dr L p ((i : Int) + 2)).1.toNat, by omega⟩
    rw [if_pos (by omega), if_pos (by omega), if_pos (by omega), if_pos (by omega), shf]
    have e : (l.set (((i + 1 : Nat) : Int)).toNat (rd l (dr L p ((i : Int) + 2)).1)).set ((dr L p ((i : Int) + 2)).1).toNat (rd l ((i + 1 : Nat) : Int)) = swp l (i + 1) (dr L p ((i : Int) + 2)).1.toNat := by
      rw [hj]; rfl
    rw [e]
    exact rshuffle_l0 hs i k _ _ hd.2.2.1 (by rw [swp_length]; omega) (by rw [swp_length]; exact hl) (by omega)
theorem rshuffle_eq (k : Nat) (L : ByteArray) (p : Int) (l : List Int) (hs : L.size ≤ 1000000) (hk : 260 ≤ k) :
    tattleref02_Shuffle.f k L p l = some (if mayd L p ∧ l.length ≤ 256 then ((shf L (l.length - 1) l p).1, L, (shf L (l.length - 1) l p).2, 0) else ([], L, p, 1)) := by
  unfold tattleref02_Shuffle.f
  obtain ⟨k, rfl⟩ : ∃ m, k = m + 1 := ⟨k - 1, by omega⟩
  rw [rmay_eq, Option.bind_some]
  by_cases h : mayd L p
  · rw [if_pos (by simpa using h)]
    by_cases hl : l.length ≤ 256
    · have e : decide ((l.length : Int) > 256) = false := by simp; omega
      rw [e, tattleref02_Shuffle.j0, if_neg (by decide), Option.bind_some, if_pos (by simp; omega), if_pos ⟨h, hl⟩, List.nil_append]
      by_cases h0 : l.length = 0
      · obtain rfl := List.eq_nil_of_length_eq_zero h0
        obtain ⟨k, rfl⟩ : ∃ m, k = m + 1 := ⟨k - 1, by omega⟩
        rw [tattleref02_Shuffle.l0, if_neg (by simp [wrap64])]
        rfl
      · have ew : wrap64 ((l.length : Int) - 1) = ((l.length - 1 : Nat) : Int) := by rw [w64_id _ (by omega) (by omega)]; omega
        rw [ew]
        exact rshuffle_l0 hs _ k l p h (by omega) hl (by omega)
    · have e : decide ((l.length : Int) > 256) = true := by simp; omega
      rw [e, tattleref02_Shuffle.j0, if_pos rfl, if_neg (fun h' => hl h'.2)]
  · rw [if_neg (by simpa using h), tattleref02_Shuffle.j0, if_pos rfl, if_neg (fun h' => h h'.1)]
theorem same_l0 (a b : List Int) (hab : a.length = b.length) (hm : a.length ≤ 1000000) : ∀ (d i k : Nat), i + d = a.length → d + 1 ≤ k → tattleref02_Same.l0 k a b (i : Int) = some (decide (a.drop i = b.drop i))
  | 0, i, k, hi, hk => by
    obtain ⟨k, rfl⟩ : ∃ m, k = m + 1 := ⟨k - 1, by omega⟩
    rw [tattleref02_Same.l0, if_neg (by omega), List.drop_of_length_le (by omega), List.drop_of_length_le (by omega)]
    rfl
  | d + 1, i, k, hi, hk => by
    obtain ⟨k, rfl⟩ : ∃ m, k = m + 1 := ⟨k - 1, by omega⟩
    have ha : i < a.length := by omega
    have hb : i < b.length := by omega
    have e1 : a.getD i 0 = a[i] := by simp [ha]
    have e2 : b.getD i 0 = b[i] := by simp [hb]
    have ew : wrap64 ((i : Int) + 1) = ((i + 1 : Nat) : Int) := by rw [w64_id _ (by omega) (by omega)]; rfl
    have ih := same_l0 a b hab hm d (i + 1) k (by omega) (by omega)
    have hA : a.drop i = a[i] :: a.drop (i + 1) := List.drop_eq_getElem_cons ha
    have hB : b.drop i = b[i] :: b.drop (i + 1) := List.drop_eq_getElem_cons hb
    have hE : (a.drop i = b.drop i) ↔ (a[i] = b[i] ∧ a.drop (i + 1) = b.drop (i + 1)) := by rw [hA, hB, List.cons.injEq]
    rw [tattleref02_Same.l0, if_pos (by omega), if_pos (by omega), if_pos (by omega), rd_nat, rd_nat, e1, e2, ew, ih]
    by_cases h : a[i] = b[i]
    · rw [if_pos h, Option.some.injEq, decide_eq_decide]
      exact ⟨fun q => hE.2 ⟨h, q⟩, fun q => (hE.1 q).2⟩
    · rw [if_neg h, decide_eq_false (fun q => h (hE.1 q).1)]
theorem same_eq (k : Nat) (a b : List Int) (hm : a.length ≤ 1000000) (hk : a.length + 1 ≤ k) : tattleref02_Same.f k a b = some (decide (a = b)) := by
  unfold tattleref02_Same.f
  by_cases h : a.length = b.length
  · rw [if_pos (by omega)]
    have := same_l0 a b h hm a.length 0 k (by omega) hk
    rw [List.drop_zero, List.drop_zero] at this
    exact this
  · rw [if_neg (by omega)]
    have : a ≠ b := fun e => h (by rw [e])
    simp [this]
theorem awake2_eq : tattlelaw02_awakeT.f = some true := rfl
theorem few_eq (L : ByteArray) (p : Int) : ∃ L', tattlelaw02_Few.f L p = some (L', p) ∧ L'.size ≤ 400 := by
  unfold tattlelaw02_Few.f
  by_cases h : (L.size : Int) > 400
  · rw [if_pos h, if_pos (by decide), if_pos (by omega)]
    exact ⟨_, rfl, by simp; omega⟩
  · rw [if_neg h]
    exact ⟨_, rfl, by omega⟩
theorem cut_eq (l : List Int) : tattlelaw02_cut.f l = some (l.take 257) := by
  unfold tattlelaw02_cut.f
  by_cases h : (l.length : Int) > 257
  · rw [if_pos h, if_pos (by omega)]
  · rw [if_neg h, List.take_of_length_le (by omega)]
end Go.Proofs.Ytlanodnbdgiihaa.Dice
