/- The document's answer for turns, and turn.Next at every input; plain facts. -/
import Derived.Test.YtlanodnbdgiihaaFnx13
import Derived.Test.YtlanodnbdgiihaaFnx14
import Derived.Test.YtlanodnbdgiihaaFnx22
import Derived.Test.YtlanodnbdgiihaaFnx23
import Derived.Test.YtlanodnbdgiihaaFnx24
import Derived.Test.YtlanodnbdgiihaaTurn3
namespace Go.Proofs.Ytlanodnbdgiihaa.Dice
open Go.RowKit Go.Proofs.Ytlanodnbdgiihaa.Fn Go.Proofs.YtlanodnbdgiihaaW.PrintWords Go.Proofs.YtlanodnbdgiihaaW.PrintMore

theorem distd_len {l : List Int} (h : distd l = true) : l.length ≤ 64 := by
  have h1 := nodup_le l ((List.range 64).map (fun n : Nat => (n : Int))) (distd_nodup h) (fun x hx => by
    have h2 := distd_rng h hx
    rw [List.mem_map]
    exact ⟨x.toNat, by rw [List.mem_range]; omega, by omega⟩)
  simpa using h1
theorem distd_iff (l : List Int) : distd l = true ↔ ∀ j : Nat, j < l.length → 0 ≤ l.getD j 0 ∧ l.getD j 0 < 64 ∧ l.count (l.getD j 0) = 1 := by
  constructor
  · intro h j hj
    have hm : l.getD j 0 ∈ l := by simp [hj]
    have h1 := distd_rng h hm
    exact ⟨h1.1, h1.2, by rw [(distd_nodup h).count, if_pos hm]⟩
  · intro h
    have hg : ∀ x ∈ l, 0 ≤ x ∧ x < 64 ∧ l.count x = 1 := by
      intro x hx
      obtain ⟨j, hj, rfl⟩ := List.getElem_of_mem hx
      have := h j hj
      simpa [hj] using this
    unfold distd
    rw [Bool.and_eq_true, decide_eq_true_eq, decide_eq_true_eq]
    refine ⟨fun x hx => ⟨(hg x hx).1, (hg x hx).2.1⟩, ?_⟩
    rw [List.nodup_iff_count]
    intro a
    by_cases ha : a ∈ l
    · rw [(hg a ha).2.2]
      exact Nat.le_refl _
    · rw [List.count_eq_zero.2 ha]
      exact Nat.zero_le _
open Classical in
theorem once_lz (l : List Int) (hl : l.length ≤ 1000000) : ∀ (d i k : Nat), i + d = l.length → l.length + d + 2 ≤ k → tattleref08_once.l0 k l (i : Int) = some (decide (∀ j : Nat, i ≤ j → j < l.length → 0 ≤ l.getD j 0 ∧ l.getD j 0 < 64 ∧ l.count (l.getD j 0) = 1))
  | 0, i, k, hi, hk => by
    obtain ⟨k, rfl⟩ : ∃ m, k = m + 1 := ⟨k - 1, by omega⟩
    rw [tattleref08_once.l0, if_neg (by omega), decide_eq_true (fun j h1 h2 => by omega)]
  | d + 1, i, k, hi, hk => by
    obtain ⟨k, rfl⟩ : ∃ m, k = m + 1 := ⟨k - 1, by omega⟩
    have ih := once_lz l hl d (i + 1) k (by omega) (by omega)
    have y : -9223372036854775808 ≤ (i : Int) + 1 ∧ (i : Int) + 1 ≤ 9223372036854775807 := by omega
    rw [tattleref08_once.l0, if_pos (by omega), if_pos (by omega), rd_nat, many_eq k l _ hl (by omega), Option.bind_some, w64_id _ y.1 y.2]
    by_cases h1 : l.getD i 0 < 0
    · rw [if_pos h1, decide_eq_false (fun q => by have := (q i (Nat.le_refl _) (by omega)).1; omega)]
    rw [if_neg h1]
    by_cases h2 : l.getD i 0 > 63
    · rw [if_pos h2, decide_eq_false (fun q => by have := (q i (Nat.le_refl _) (by omega)).2.1; omega)]
    rw [if_neg h2]
    by_cases h3 : l.count (l.getD i 0) = 1
    · rw [if_pos (by rw [h3]; rfl), show ((i : Int) + 1) = ((i + 1 : Nat) : Int) by omega, ih]
      congr 1
      rw [decide_eq_decide]
      constructor
      · intro q j h4 h5
        by_cases e : j = i
        · subst e
          exact ⟨by omega, by omega, h3⟩
        · exact q j (by omega) h5
      · exact fun q j h4 h5 => q j (by omega) h5
    · rw [if_neg (by omega), decide_eq_false (fun q => h3 (q i (Nat.le_refl _) (by omega)).2.2)]
open Classical in
theorem ronce_eq (k : Nat) (l : List Int) (hl : l.length ≤ 1000000) (hk : 2 * l.length + 2 ≤ k) : tattleref08_once.f k l = some (distd l) := by
  unfold tattleref08_once.f
  have := once_lz l hl l.length 0 k (by omega) (by omega)
  rw [show ((0 : Nat) : Int) = 0 from rfl] at this
  rw [this]
  congr 1
  rw [Bool.eq_iff_iff, decide_eq_true_eq, distd_iff]
  exact ⟨fun q j hj => q j (Nat.zero_le _) hj, fun q j _ hj => q j hj⟩
/-- May a turn be? -/
def okt (tl : List Int) (at0 : Int) : Bool := distd tl && decide (0 ≤ at0 ∧ at0 ≤ (tl.length : Int))
theorem rmay8_eq (k : Nat) (tl : List Int) (at0 : Int) (hl : tl.length ≤ 1000000) (hk : 2 * tl.length + 2 ≤ k) : tattleref08_May.f k tl at0 = some (okt tl at0) := by
  unfold tattleref08_May.f okt
  by_cases h : (tl.length : Int) ≤ 64
  · rw [if_pos h, ronce_eq k tl hl hk, Option.bind_some]
    cases distd tl with
    | false => rfl
    | true =>
      rw [if_pos rfl]
      by_cases h1 : 0 ≤ at0
      · rw [if_pos h1]
        simp [h1]
      · rw [if_neg h1]
        simp [h1]
  · rw [if_neg h]
    cases hd : distd tl with
    | false => rfl
    | true =>
      have := distd_len hd
      omega
theorem tcheck_eq (tl : List Int) (at0 : Int) : turn_Check.f tl at0 = some (if okt tl at0 = true then 0 else 1) := by
  unfold turn_Check.f turn_distinct.f okt
  rw [Option.bind_some]
  cases distd tl with
  | false => rfl
  | true =>
    rw [if_pos rfl]
    by_cases h1 : at0 < 0
    · rw [if_pos h1, if_neg (by simp; omega)]
    rw [if_neg h1]
    by_cases h2 : at0 > (tl.length : Int)
    · rw [if_pos h2, if_neg (by simp; omega)]
    · rw [if_neg h2, if_pos (by simp; omega)]
open Classical in
theorem rnodes_l0 (l : List Int) (hl : l.length ≤ 1000000) : ∀ (d i k : Nat), 1 ≤ i → l.length ≤ i + d → 2 * l.length + d + 3 ≤ k → tattleref08_Nodes.l0 k l (i : Int) = some (decide (∀ j : Nat, i ≤ j → j < l.length → l.getD (j - 1) 0 < l.getD j 0) && (decide (l.length ≤ 64) && distd l))
  | d, i, k, h1, hi, hk => by
    obtain ⟨k, rfl⟩ : ∃ m, k = m + 1 := ⟨k - 1, by omega⟩
    rw [tattleref08_Nodes.l0]
    by_cases h : (i : Int) < (l.length : Int)
    · obtain ⟨d, rfl⟩ : ∃ m, d = m + 1 := ⟨d - 1, by omega⟩
      have ih := rnodes_l0 l hl d (i + 1) k (by omega) (by omega) (by omega)
      have y : -9223372036854775808 ≤ (i : Int) + 1 ∧ (i : Int) + 1 ≤ 9223372036854775807 := by omega
      have z : wrap64 ((i : Int) - 1) = ((i - 1 : Nat) : Int) := by rw [w64_id _ (by omega) (by omega)]; omega
      rw [if_pos h, if_pos (by omega), z, if_pos (by omega), if_pos (by omega), rd_nat, rd_nat, w64_id _ y.1 y.2]
      by_cases h2 : l.getD i 0 ≤ l.getD (i - 1) 0
      · rw [if_pos h2, decide_eq_false (fun q => by have := q i (Nat.le_refl _) (by omega); omega)]
        rfl
      · rw [if_neg h2, show ((i : Int) + 1) = ((i + 1 : Nat) : Int) by omega, ih]
        congr 2
        rw [decide_eq_decide]
        constructor
        · intro q j h4 h5
          by_cases e : j = i
          · subst e
            omega
          · exact q j (by omega) h5
        · exact fun q j h4 h5 => q j (by omega) h5
    · rw [if_neg h, decide_eq_true (fun j h1 h2 => by omega), Bool.true_and]
      by_cases h2 : (l.length : Int) ≤ 64
      · rw [if_pos h2, ronce_eq k l hl (by omega), Option.bind_some, decide_eq_true (by omega : l.length ≤ 64), Bool.true_and]
      · rw [if_neg h2, decide_eq_false (by omega : ¬l.length ≤ 64)]
        rfl
theorem srt_of (l : List Int) : ∀ i : Nat, i < l.length → (∀ j : Nat, 1 ≤ j → j < l.length → l.getD (j - 1) 0 < l.getD j 0) → srt l i = true
  | 0, _, _ => rfl
  | i + 1, hi, h => by
    have h1 := h (i + 1) (by omega) hi
    rw [Nat.add_sub_cancel] at h1
    rw [srt, srt_of l i (by omega) h, Bool.and_true, decide_eq_false (by omega)]
    rfl
open Classical in
theorem rnodes_eq (k : Nat) (l : List Int) (hl : l.length ≤ 1000000) (hk : 3 * l.length + 4 ≤ k) : tattleref08_Nodes.f k l = some (nodesok l) := by
  unfold tattleref08_Nodes.f
  have := rnodes_l0 l hl l.length 1 k (Nat.le_refl _) (by omega) (by omega)
  rw [show ((1 : Nat) : Int) = 1 from rfl] at this
  rw [this]
  congr 1
  rw [Bool.eq_iff_iff, Bool.and_eq_true, Bool.and_eq_true, decide_eq_true_eq, decide_eq_true_eq]
  constructor
  · rintro ⟨h1, h2, h3⟩
    unfold nodesok
    rw [h3, Bool.true_and]
    by_cases h0 : l.length = 0
    · rw [h0]
      rfl
    · exact srt_of l _ (by omega) h1
  · intro h
    have hd := nodesok_dis h
    unfold nodesok at h
    rw [Bool.and_eq_true] at h
    refine ⟨fun j h1 h2 => ?_, distd_len hd, hd⟩
    have h3 := srt_le l _ h.2 (j - 1) j (by omega) (by omega)
    have hne : l.getD (j - 1) 0 ≠ l.getD j 0 := by
      intro e
      have hn := distd_nodup hd
      have e1 : l[j - 1]? = l[j]? := by
        rw [List.getD_eq_getElem?_getD, List.getD_eq_getElem?_getD, List.getElem?_eq_getElem (by omega : j - 1 < l.length), List.getElem?_eq_getElem h2, Option.getD_some, Option.getD_some] at e
        rw [List.getElem?_eq_getElem (by omega : j - 1 < l.length), List.getElem?_eq_getElem h2, e]
      have := (List.getElem?_inj (by omega) hn).1 e1
      omega
    omega
/-- What is asked next at every input. -/
def nres (L : ByteArray) (p : Int) (l tl : List Int) (at0 : Int) : Int × List Int × Int × ByteArray × Int × Int :=
  if okt tl at0 = true ∧ nodesok l = true ∧ mayd L p then (if l.length = 0 then (0, tl, at0, L, p, 6) else ((nxt L tl at0.toNat p l).1, (nxt L tl at0.toNat p l).2.1, (nxt L tl at0.toNat p l).2.2.1, L, (nxt L tl at0.toNat p l).2.2.2, 0)) else (0, tl, at0, L, p, 1)
theorem okt_at {tl : List Int} {at0 : Int} (h : okt tl at0 = true) : distd tl = true ∧ 0 ≤ at0 ∧ at0 ≤ (tl.length : Int) := by
  unfold okt at h
  rw [Bool.and_eq_true, decide_eq_true_eq] at h
  exact h
theorem next_all (k : Nat) (hk : 300 ≤ k) (L : ByteArray) (hL : L.size ≤ 1000000) (p : Int) (l : List Int) (hl : l.length ≤ 65) (tl : List Int) (at0 : Int) (ht : tl.length ≤ 65) : turn_Next.f k tl at0 L p l = some (nres L p l tl at0) := by
  by_cases hg : okt tl at0 = true ∧ nodesok l = true ∧ mayd L p
  · obtain ⟨h1, h2, h3⟩ := hg
    unfold nres
    rw [if_pos ⟨h1, h2, h3⟩]
    obtain ⟨hd, ha, hb⟩ := okt_at h1
    by_cases h0 : l.length = 0
    · rw [if_pos h0]
      obtain ⟨k, rfl⟩ : ∃ m, k = m + 1 := ⟨k - 1, by omega⟩
      unfold turn_Next.f
      rw [tcheck_eq, if_pos h1, Option.bind_some, if_pos rfl, nodes_eq l (by omega) _ (by omega), if_pos h2, Option.bind_some, if_pos rfl, check_eq, if_pos h3, Option.bind_some, turn_Next.j0, if_neg (by decide), if_pos (by omega)]
    · rw [if_neg h0]
      obtain ⟨at_, rfl⟩ := Int.eq_ofNat_of_zero_le ha
      rw [Int.toNat_natCast]
      exact next_eq k hk L hL p h3 l hl (by omega) h2 tl at_ ht (by omega) hd
  · obtain ⟨k, rfl⟩ : ∃ m, k = m + 1 := ⟨k - 1, by omega⟩
    unfold nres turn_Next.f
    rw [if_neg hg, tcheck_eq, Option.bind_some]
    by_cases h1 : okt tl at0 = true
    · rw [if_pos h1, if_pos rfl, nodes_eq l (by omega) _ (by omega), Option.bind_some]
      by_cases h2 : nodesok l = true
      · have h3 : ¬mayd L p := fun h3 => hg ⟨h1, h2, h3⟩
        rw [if_pos h2, if_pos rfl, check_eq, if_neg h3, Option.bind_some, turn_Next.j0, if_pos (by decide)]
      · rw [if_neg h2, if_neg (by decide), turn_Next.j0, if_pos rfl]
    · rw [if_neg h1, if_neg (by decide), turn_Next.j0, if_pos rfl]
theorem rnext_l0 (L : ByteArray) (hL : L.size ≤ 1000000) (p : Int) (hp : mayd L p) (l : List Int) (hl : l.length ≤ 65) (h0 : 0 < l.length) (tl : List Int) (at_ : Nat) (ht : tl.length ≤ 65) (ha : at_ ≤ tl.length) :
    ∀ (d i k : Nat), i + d = (tl.drop at_).length → (∀ m : Nat, m < i → ¬(tl.drop at_).getD m 0 ∈ l) → d + 400 ≤ k →
    tattleref08_Next.l0 k l ((at_ + i : Nat) : Int) tl (at_ : Int) L p = some ((nxt L tl at_ p l).1, (nxt L tl at_ p l).2.1, (nxt L tl at_ p l).2.2.1, L, (nxt L tl at_ p l).2.2.2, 0)
  | 0, i, k, hi, hm, hk => by
    obtain ⟨k, rfl⟩ : ∃ m, k = m + 1 := ⟨k - 1, by omega⟩
    have hdl : (tl.drop at_).length = tl.length - at_ := List.length_drop
    have hno : ¬(tl.drop at_).findIdx (fun x => decide (x ∈ l)) < (tl.drop at_).length := by
      intro h
      have h2 := List.findIdx_getElem (w := h)
      have h3 := hm _ (by omega : (tl.drop at_).findIdx (fun x => decide (x ∈ l)) < i)
      simp only [List.getD_eq_getElem?_getD, List.getElem?_eq_getElem h, Option.getD_some] at h3
      exact h3 (of_decide_eq_true h2)
    have hpos : 0 < (((shf L (l.length - 1) l p).1.length : Nat) : Int) := by rw [shf_length]; omega
    rw [tattleref08_Next.l0, if_neg (by omega), rshuffle_eq k L p l hL (by omega), if_pos ⟨hp, by omega⟩, Option.bind_some, nxt, if_neg hno]
    simp only
    rw [if_pos hpos]
    rfl
  | d + 1, i, k, hi, hm, hk => by
    obtain ⟨k, rfl⟩ : ∃ m, k = m + 1 := ⟨k - 1, by omega⟩
    have hdl : (tl.drop at_).length = tl.length - at_ := List.length_drop
    have hil : i < (tl.drop at_).length := by omega
    have hget : tl.getD (at_ + i) 0 = (tl.drop at_).getD i 0 := by
      rw [List.getD_eq_getElem?_getD, List.getD_eq_getElem?_getD, List.getElem?_drop]
    have y : -9223372036854775808 ≤ ((at_ + i : Nat) : Int) + 1 ∧ ((at_ + i : Nat) : Int) + 1 ≤ 9223372036854775807 := by omega
    rw [tattleref08_Next.l0, if_pos (by omega), if_pos (by omega), rd_nat, many_eq k l _ (by omega) (by omega), Option.bind_some, hget, w64_id _ y.1 y.2]
    by_cases hx : (tl.drop at_).getD i 0 ∈ l
    · have hc : 0 < l.count ((tl.drop at_).getD i 0) := List.count_pos_iff.2 hx
      have hf : (tl.drop at_).findIdx (fun x => decide (x ∈ l)) = i := by
        rw [List.findIdx_eq hil]
        simp only [List.getD_eq_getElem?_getD, List.getElem?_eq_getElem hil, Option.getD_some] at hx
        refine ⟨decide_eq_true hx, fun j hj => ?_⟩
        have h3 := hm j hj
        simp only [List.getD_eq_getElem?_getD, List.getElem?_eq_getElem (show j < (tl.drop at_).length by omega), Option.getD_some] at h3
        exact decide_eq_false h3
      rw [if_pos (by omega), nxt, hf, if_pos hil]
      rfl
    · have hc : l.count ((tl.drop at_).getD i 0) = 0 := List.count_eq_zero.2 hx
      rw [if_neg (by omega)]
      refine rnext_l0 L hL p hp l hl h0 tl at_ ht ha d (i + 1) k (by omega) (fun m hm2 => ?_) (by omega)
      by_cases e : m = i
      · rw [e]; exact hx
      · exact hm m (by omega)
theorem rnext_all (k : Nat) (hk : 700 ≤ k) (L : ByteArray) (hL : L.size ≤ 1000000) (p : Int) (l : List Int) (hl : l.length ≤ 65) (tl : List Int) (at0 : Int) (ht : tl.length ≤ 65) : tattleref08_Next.f k tl at0 L p l = some (nres L p l tl at0) := by
  obtain ⟨k, rfl⟩ : ∃ m, k = m + 1 := ⟨k - 1, by omega⟩
  unfold tattleref08_Next.f
  rw [rmay8_eq _ tl at0 (by omega) (by omega), Option.bind_some]
  by_cases h1 : okt tl at0 = true
  · rw [if_pos h1, rnodes_eq _ l (by omega) (by omega), Option.bind_some]
    by_cases h2 : nodesok l = true
    · rw [if_pos h2, rmay_eq, Option.bind_some]
      by_cases h3 : mayd L p
      · unfold nres
        rw [if_pos ⟨h1, h2, h3⟩, decide_eq_true h3, tattleref08_Next.j0, if_neg (by decide)]
        by_cases h0 : l.length = 0
        · rw [if_pos h0, if_pos (by omega)]
        · rw [if_neg h0, if_neg (by omega)]
          obtain ⟨hd, ha, hb⟩ := okt_at h1
          obtain ⟨at_, rfl⟩ := Int.eq_ofNat_of_zero_le ha
          rw [Int.toNat_natCast]
          have := rnext_l0 L hL p h3 l hl (by omega) tl at_ ht (by omega) (tl.drop at_).length 0 k (by omega) (fun m hm => by omega) (by rw [List.length_drop]; omega)
          rw [Nat.add_zero] at this
          exact this
      · unfold nres
        rw [if_neg (fun q => h3 q.2.2), decide_eq_false h3, tattleref08_Next.j0, if_pos (by decide)]
    · rw [if_neg h2, tattleref08_Next.j0, if_pos rfl, nres, if_neg (fun q => h2 q.2.1)]
  · rw [if_neg h1, tattleref08_Next.j0, if_pos rfl, nres, if_neg (fun q => h1 q.1)]
theorem equal_l0 (a b : List Int) (hab : a.length = b.length) (hm : a.length ≤ 1000000) : ∀ (d i k : Nat), i + d = a.length → d + 1 ≤ k → slices_Equal_int_int.l0 k a b (a.length : Int) (i : Int) = some (decide (a.drop i = b.drop i))
  | 0, i, k, hi, hk => by
    obtain ⟨k, rfl⟩ : ∃ m, k = m + 1 := ⟨k - 1, by omega⟩
    rw [slices_Equal_int_int.l0, if_neg (by omega), List.drop_of_length_le (by omega), List.drop_of_length_le (by omega)]
    rfl
  | d + 1, i, k, hi, hk => by
    obtain ⟨k, rfl⟩ : ∃ m, k = m + 1 := ⟨k - 1, by omega⟩
    have ih := equal_l0 a b hab hm d (i + 1) k (by omega) (by omega)
    have y : -9223372036854775808 ≤ (i : Int) + 1 ∧ (i : Int) + 1 ≤ 9223372036854775807 := by omega
    have ha : i < a.length := by omega
    have hb : i < b.length := by omega
    rw [slices_Equal_int_int.l0, if_pos (by omega), if_pos (by omega), if_pos (by omega), if_pos (by omega), rd_nat, rd_nat, w64_id _ y.1 y.2]
    have e1 : a.getD i 0 = a[i] := by simp [ha]
    have e2 : b.getD i 0 = b[i] := by simp [hb]
    rw [e1, e2, List.drop_eq_getElem_cons ha, List.drop_eq_getElem_cons hb]
    by_cases h : a[i] = b[i]
    · rw [if_pos h, show ((i : Int) + 1) = ((i + 1 : Nat) : Int) by omega, ih, h]
      congr 1
      rw [decide_eq_decide, List.cons.injEq]
      exact ⟨fun q => ⟨rfl, q⟩, fun q => q.2⟩
    · rw [if_neg h]
      congr 1
      symm
      rw [decide_eq_false_iff_not, List.cons.injEq]
      exact fun q => h q.1
theorem equal_eq (k : Nat) (a b : List Int) (hm : a.length ≤ 1000000) (hk : a.length + 1 ≤ k) : slices_Equal_int_int.f k a b = some (decide (a = b)) := by
  unfold slices_Equal_int_int.f
  by_cases h : a.length = b.length
  · rw [if_pos (by omega)]
    have := equal_l0 a b h hm a.length 0 k (by omega) hk
    rw [List.drop_zero, List.drop_zero] at this
    exact this
  · rw [if_neg (by omega), decide_eq_false (fun e => h (by rw [e]))]
theorem few8_all (l : List Int) : ∃ l', tattlelaw08_Few.f l = some l' ∧ l'.length ≤ 65 := by
  unfold tattlelaw08_Few.f
  by_cases h : (l.length : Int) > 65
  · rw [if_pos h, if_pos (by omega)]
    exact ⟨_, rfl, by rw [List.length_take]; omega⟩
  · rw [if_neg h]
    exact ⟨_, rfl, by omega⟩
theorem nres_len (L : ByteArray) (p : Int) (l tl : List Int) (at0 : Int) (hl : l.length ≤ 65) (ht : tl.length ≤ 65) : (nres L p l tl at0).2.1.length ≤ 65 := by
  unfold nres nxt
  split
  · split
    · exact ht
    · split
      · exact ht
      · simp only [shf_length]
        exact hl
  · exact ht
end Go.Proofs.Ytlanodnbdgiihaa.Dice
