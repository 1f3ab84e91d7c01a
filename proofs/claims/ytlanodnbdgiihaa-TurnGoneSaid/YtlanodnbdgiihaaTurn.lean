/- What the functions of package turn come to: plain facts on numbers and lists. -/
import Derived.Test.YtlanodnbdgiihaaFnx13
import Derived.Test.YtlanodnbdgiihaaFnx14
import Derived.Test.YtlanodnbdgiihaaFnx3
import Derived.Test.YtlanodnbdgiihaaFnx0
import Derived.Test.YtlanodnbdgiihaaDice2
import Derived.Test.YtlanodnbdgiihaaExDistinct
namespace Go.Proofs.Ytlanodnbdgiihaa.Dice
open Go.RowKit Go.Proofs.Ytlanodnbdgiihaa.Fn Go.Proofs.YtlanodnbdgiihaaW.PrintWords Go.Proofs.YtlanodnbdgiihaaW.PrintMore

theorem less_eq (a b : Int) : cmp_Less_int.f a b = some (decide (a < b)) := by
  unfold cmp_Less_int.f cmp_isNaN_int.f
  rw [Option.bind_some, if_neg (by simp)]
/-- In order, from place i down? -/
def srt (l : List Int) : Nat → Bool
  | 0 => true
  | i + 1 => !decide (l.getD (i + 1) 0 < l.getD i 0) && srt l i
theorem srt_l0 (l : List Int) (hl : l.length ≤ 1000000) : ∀ (i k : Nat), (i = 0 ∨ i < l.length) → i + 1 ≤ k → slices_IsSorted_int_int.l0 k l (i : Int) = some (srt l i)
  | 0, k, _, hk => by
    obtain ⟨k, rfl⟩ : ∃ m, k = m + 1 := ⟨k - 1, by omega⟩
    rw [slices_IsSorted_int_int.l0, if_neg (by omega)]
    rfl
  | i + 1, k, hi, hk => by
    obtain ⟨k, rfl⟩ : ∃ m, k = m + 1 := ⟨k - 1, by omega⟩
    have ih := srt_l0 l hl i k (by omega) (by omega)
    have c1 : ((i + 1 : Nat) : Int) > 0 := by omega
    have c2 : 0 ≤ ((i + 1 : Nat) : Int) := by omega
    have c3 : ((i + 1 : Nat) : Int) < (l.length : Int) := by omega
    have c4 : 0 ≤ (i : Int) := by omega
    have c5 : (i : Int) < (l.length : Int) := by omega
    have ew : wrap64 (((i + 1 : Nat) : Int) - 1) = (i : Int) := by rw [w64_id _ (by omega) (by omega)]; omega
    rw [slices_IsSorted_int_int.l0, if_pos c1, if_pos c2, if_pos c3, ew, if_pos c4, if_pos c5, rd_nat, rd_nat, less_eq, Option.bind_some, srt]
    cases hd : decide (l.getD (i + 1) 0 < l.getD i 0) with
    | true => rw [if_pos rfl]; rfl
    | false => rw [if_neg (by decide), ih]; rfl
/-- May nodes be? -/
def nodesok (l : List Int) : Bool := distd l && srt l (l.length - 1)
theorem nodes_eq (l : List Int) (hl : l.length ≤ 1000000) (k : Nat) (hk : l.length + 2 ≤ k) : turn_Nodes.f k l = some (if nodesok l = true then 0 else 1) := by
  unfold turn_Nodes.f turn_distinct.f nodesok
  rw [Option.bind_some]
  cases hd : distd l with
  | false => rw [if_neg (by decide)]; rfl
  | true =>
    have hs : slices_IsSorted_int_int.f k l = some (srt l (l.length - 1)) := by
      unfold slices_IsSorted_int_int.f
      by_cases h0 : l.length = 0
      · obtain rfl := List.eq_nil_of_length_eq_zero h0
        obtain ⟨k, rfl⟩ : ∃ m, k = m + 1 := ⟨k - 1, by omega⟩
        have e : wrap64 ((([] : List Int).length : Int) - 1) = -1 := by simp [wrap64]
        rw [e, slices_IsSorted_int_int.l0, if_neg (by decide)]
        rfl
      · have ew : wrap64 ((l.length : Int) - 1) = ((l.length - 1 : Nat) : Int) := by rw [w64_id _ (by omega) (by omega)]; omega
        rw [ew]
        exact srt_l0 l hl _ k (by omega) (by omega)
    rw [if_pos rfl, hs, Option.bind_some]
    cases srt l (l.length - 1) <;> rfl
theorem srt_le (l : List Int) : ∀ (i : Nat), srt l i = true → ∀ a b : Nat, a ≤ b → b ≤ i → l.getD a 0 ≤ l.getD b 0
  | 0, _, a, b, hab, hb => by
    obtain rfl : b = 0 := by omega
    obtain rfl : a = 0 := by omega
    exact Int.le_refl _
  | i + 1, h, a, b, hab, hb => by
    rw [srt, Bool.and_eq_true, Bool.not_eq_true', decide_eq_false_iff_not] at h
    by_cases e : b = i + 1
    · subst e
      by_cases e2 : a = i + 1
      · rw [e2]
        exact Int.le_refl _
      · have := srt_le l i h.2 a i (by omega) (Nat.le_refl _)
        omega
    · exact srt_le l i h.2 a b hab (by omega)
theorem bs_l0 (l : List Int) (x : Int) (hl : l.length ≤ 1000000) (hs : ∀ a b : Nat, a ≤ b → b < l.length → l.getD a 0 ≤ l.getD b 0) : ∀ (d i j k : Nat), j - i ≤ d → i ≤ j → j ≤ l.length → (∀ m : Nat, m < i → l.getD m 0 < x) → (∀ m : Nat, j ≤ m → m < l.length → x ≤ l.getD m 0) → d + 1 ≤ k →
    ∃ y, slices_BinarySearch_int_int.l0 k l x (l.length : Int) (i : Int) (j : Int) = some (y, decide (x ∈ l))
  | d, i, j, k, hd, hij, hj, h1, h2, hk => by
    obtain ⟨k, rfl⟩ : ∃ m, k = m + 1 := ⟨k - 1, by omega⟩
    rw [slices_BinarySearch_int_int.l0]
    by_cases h : (i : Int) < (j : Int)
    · obtain ⟨d, rfl⟩ : ∃ m, d = m + 1 := ⟨d - 1, by omega⟩
      have eM : ((i : Int) + (j : Int)) / 2 = (((i + j) / 2 : Nat) : Int) := by omega
      have q1 : i ≤ (i + j) / 2 := by omega
      have q2 : (i + j) / 2 < j := by omega
      generalize (i + j) / 2 = M at eM q1 q2
      have c1 : 0 ≤ (M : Int) := by omega
      have c2 : (M : Int) < (l.length : Int) := by omega
      have r1 := fun h1' => bs_l0 l x hl hs d (M + 1) j k (by omega) (by omega) hj h1' h2 (by omega)
      have r2 := fun h2' => bs_l0 l x hl hs d i M k (by omega) (by omega) (by omega) h1 h2' (by omega)
      have y1 : -9223372036854775808 ≤ (i : Int) + (j : Int) ∧ (i : Int) + (j : Int) ≤ 9223372036854775807 := by omega
      have y2 : -9223372036854775808 ≤ (M : Int) ∧ (M : Int) ≤ 9223372036854775807 := by omega
      have y3 : -9223372036854775808 ≤ (M : Int) + 1 ∧ (M : Int) + 1 ≤ 9223372036854775807 := by omega
      have eu : IntKind.u64.wrap ((i : Int) + (j : Int)) = (i : Int) + (j : Int) := by
        simp only [IntKind.wrap, IntKind.bits, IntKind.signed]
        simp
        omega
      rw [if_pos h, w64_id _ y1.1 y1.2, eu, eM, w64_id _ y2.1 y2.2, w64_id _ y3.1 y3.2, if_pos c1, if_pos c2, rd_nat, less_eq, Option.bind_some]
      by_cases hx : l.getD M 0 < x
      · rw [if_pos (by simpa using hx)]
        refine r1 (fun m hm => ?_)
        have := hs m M (by omega) (by omega)
        omega
      · rw [if_neg (by simpa using hx)]
        refine r2 (fun m hm hm2 => ?_)
        have := hs M m (by omega) (by omega)
        omega
    · have e : i = j := by omega
      subst e
      rw [if_neg h]
      have hmem : x ∈ l ↔ ∃ m : Nat, m < l.length ∧ l.getD m 0 = x := by
        constructor
        · intro hx
          obtain ⟨m, hm, hx⟩ := List.getElem_of_mem hx
          exact ⟨m, hm, by simp [hm, hx]⟩
        · rintro ⟨m, hm, rfl⟩
          simp [hm]
      by_cases hi : (i : Int) < (l.length : Int)
      · rw [if_pos hi, if_pos (by omega), if_pos hi, rd_nat]
        by_cases he : l.getD i 0 = x
        · rw [if_pos he, decide_eq_true (hmem.2 ⟨i, by omega, he⟩)]
          exact ⟨_, rfl⟩
        · have hno : ¬x ∈ l := by
            intro hx
            obtain ⟨m, hm, hmx⟩ := hmem.1 hx
            by_cases hmi : m < i
            · have := h1 m hmi
              omega
            · have a1 := hs i m (by omega) hm
              have a2 := h2 i (Nat.le_refl _) (by omega)
              omega
          have hn : ∀ z : Int, slices_isNaN_int.f z = some false := fun z => by unfold slices_isNaN_int.f; simp
          rw [if_neg he, hn, Option.bind_some, if_neg (by decide), decide_eq_false hno]
          exact ⟨_, rfl⟩
      · have hno : ¬x ∈ l := by
          intro hx
          obtain ⟨m, hm, hmx⟩ := hmem.1 hx
          have := h1 m (by omega)
          omega
        rw [if_neg hi, decide_eq_false hno]
        exact ⟨_, rfl⟩
theorem bs_eq (l : List Int) (x : Int) (hl : l.length ≤ 1000000) (hs : nodesok l = true) (k : Nat) (hk : l.length + 1 ≤ k) : ∃ y, slices_BinarySearch_int_int.f k l x = some (y, decide (x ∈ l)) := by
  unfold nodesok at hs
  rw [Bool.and_eq_true] at hs
  have hle := srt_le l (l.length - 1) hs.2
  unfold slices_BinarySearch_int_int.f
  exact bs_l0 l x hl (fun a b hab hb => hle a b hab (by omega)) l.length 0 l.length k (by omega) (by omega) (Nat.le_refl _) (fun m hm => by omega) (fun m hm hm2 => by omega) hk
/-- Who is asked next, the turn then, and the dice's place. -/
def nxt (L : ByteArray) (tl : List Int) (at_ : Nat) (p : Int) (l : List Int) : Int × List Int × Int × Int :=
  if (tl.drop at_).findIdx (fun x => decide (x ∈ l)) < (tl.drop at_).length then ((tl.drop at_).getD ((tl.drop at_).findIdx (fun x => decide (x ∈ l))) 0, tl, ((at_ + (tl.drop at_).findIdx (fun x => decide (x ∈ l)) + 1 : Nat) : Int), p)
  else ((shf L (l.length - 1) l p).1.getD 0 0, (shf L (l.length - 1) l p).1, 1, (shf L (l.length - 1) l p).2)
theorem next_l0 (L : ByteArray) (hL : L.size ≤ 1000000) (p : Int) (hp : mayd L p) (l : List Int) (hl : l.length ≤ 65) (h0 : 0 < l.length) (hs : nodesok l = true) (tl : List Int) (at_ : Nat) (ht : tl.length ≤ 65) (ha : at_ ≤ tl.length) :
    ∀ (d i k : Nat), i + d = (tl.drop at_).length → (∀ m : Nat, m < i → ¬(tl.drop at_).getD m 0 ∈ l) → d + 100 ≤ k →
    turn_Next.l0 k l (tl.drop at_) ((tl.drop at_).length : Int) (i : Int) tl (at_ : Int) L p = some ((nxt L tl at_ p l).1, (nxt L tl at_ p l).2.1, (nxt L tl at_ p l).2.2.1, L, (nxt L tl at_ p l).2.2.2, 0)
  | 0, i, k, hi, hm, hk => by
    obtain ⟨k, rfl⟩ : ∃ m, k = m + 1 := ⟨k - 1, by omega⟩
    have hno : ¬(tl.drop at_).findIdx (fun x => decide (x ∈ l)) < (tl.drop at_).length := by
      intro h
      have h2 := List.findIdx_getElem (w := h)
      have h3 := hm _ (by omega : (tl.drop at_).findIdx (fun x => decide (x ∈ l)) < i)
      simp only [List.getD_eq_getElem?_getD, List.getElem?_eq_getElem h, Option.getD_some] at h3
      exact h3 (of_decide_eq_true h2)
    have hpos : 0 < (((shf L (l.length - 1) l p).1.length : Nat) : Int) := by rw [shf_length]; omega
    rw [turn_Next.l0, if_neg (by omega), shuffle_eq L p l hL, if_pos ⟨hp, by omega⟩, Option.bind_some, nxt, if_neg hno]
    simp only [if_true]
    rw [if_pos hpos]
    rfl
  | d + 1, i, k, hi, hm, hk => by
    obtain ⟨k, rfl⟩ : ∃ m, k = m + 1 := ⟨k - 1, by omega⟩
    have hlen : (tl.drop at_).length ≤ 65 := by rw [List.length_drop]; omega
    have hdl : (tl.drop at_).length = tl.length - at_ := List.length_drop
    have c1 : (i : Int) < ((tl.drop at_).length : Int) := by omega
    have c2 : 0 ≤ (i : Int) := by omega
    have hil : i < (tl.drop at_).length := by omega
    obtain ⟨y, hy⟩ := bs_eq l ((tl.drop at_).getD i 0) (by omega) hs k (by omega)
    have z1 : -9223372036854775808 ≤ (i : Int) + 1 ∧ (i : Int) + 1 ≤ 9223372036854775807 := by omega
    have z2 : -9223372036854775808 ≤ (at_ : Int) + (i : Int) ∧ (at_ : Int) + (i : Int) ≤ 9223372036854775807 := by omega
    have z3 : -9223372036854775808 ≤ (at_ : Int) + (i : Int) + 1 ∧ (at_ : Int) + (i : Int) + 1 ≤ 9223372036854775807 := by omega
    rw [turn_Next.l0, if_pos c1, if_pos c2, if_pos c1, rd_nat, hy, Option.bind_some]
    by_cases hx : (tl.drop at_).getD i 0 ∈ l
    · have hf : (tl.drop at_).findIdx (fun x => decide (x ∈ l)) = i := by
        rw [List.findIdx_eq hil]
        simp only [List.getD_eq_getElem?_getD, List.getElem?_eq_getElem hil, Option.getD_some] at hx
        refine ⟨decide_eq_true hx, fun j hj => ?_⟩
        have h3 := hm j hj
        simp only [List.getD_eq_getElem?_getD, List.getElem?_eq_getElem (show j < (tl.drop at_).length by omega), Option.getD_some] at h3
        exact decide_eq_false h3
      have hcl : slices_Clone_int_int.f tl = some tl := by simp [slices_Clone_int_int.f]; omega
      rw [if_pos (by simpa using hx), hcl, Option.bind_some, w64_id _ z2.1 z2.2, w64_id _ z3.1 z3.2, nxt, hf, if_pos hil]
      rfl
    · rw [if_neg (by simpa using hx), w64_id _ z1.1 z1.2]
      refine next_l0 L hL p hp l hl h0 hs tl at_ ht ha d (i + 1) k (by omega) (fun m hm2 => ?_) (by omega)
      by_cases e : m = i
      · rw [e]; exact hx
      · exact hm m (by omega)
end Go.Proofs.Ytlanodnbdgiihaa.Dice
