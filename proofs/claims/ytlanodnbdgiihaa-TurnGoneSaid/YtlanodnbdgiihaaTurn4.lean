/- turn.Next at every input; plain facts. -/
import Derived.Test.YtlanodnbdgiihaaFnx13
import Derived.Test.YtlanodnbdgiihaaFnx14
import Derived.Test.YtlanodnbdgiihaaFnx24
import Derived.Test.YtlanodnbdgiihaaTurn3
namespace Go.Proofs.Ytlanodnbdgiihaa.Dice
open Go.RowKit Go.Proofs.Ytlanodnbdgiihaa.Fn Go.Proofs.YtlanodnbdgiihaaW.PrintWords Go.Proofs.YtlanodnbdgiihaaW.PrintMore

/-- May a turn be? -/
def okt (tl : List Int) (at0 : Int) : Bool := distd tl && decide (0 ≤ at0 ∧ at0 ≤ (tl.length : Int))
theorem tcheck_eq (tl : List Int) (at0 : Int) : turn_Check.f tl at0 = some (if okt tl at0 = true then 0 else 1) := by
  unfold turn_Check.f turn_distinct.f okt
  rw [Option.bind_some]
  cases distd tl with
  | false => rfl
  | true =>
    rw [if_pos rfl]
    by_cases h1 : at0 < 0
    · rw [if_pos h1, if_neg (by simp; omega)]
    rw [if_neg h1]
    by_cases h2 : at0 > (tl.length : Int)
    · rw [if_pos h2, if_neg (by simp; omega)]
    · rw [if_neg h2, if_pos (by simp; omega)]
/-- What is asked next at every input. -/
def nres (L : ByteArray) (p : Int) (l tl : List Int) (at0 : Int) : Int × List Int × Int × ByteArray × Int × Int :=
  if okt tl at0 = true ∧ nodesok l = true ∧ mayd L p then (if l.length = 0 then (0, tl, at0, L, p, 6) else ((nxt L tl at0.toNat p l).1, (nxt L tl at0.toNat p l).2.1, (nxt L tl at0.toNat p l).2.2.1, L, (nxt L tl at0.toNat p l).2.2.2, 0)) else (0, tl, at0, L, p, 1)
theorem okt_at {tl : List Int} {at0 : Int} (h : okt tl at0 = true) : distd tl = true ∧ 0 ≤ at0 ∧ at0 ≤ (tl.length : Int) := by
  unfold okt at h
  rw [Bool.and_eq_true, decide_eq_true_eq] at h
  exact h
theorem next_all (k : Nat) (hk : 300 ≤ k) (L : ByteArray) (hL : L.size ≤ 1000000) (p : Int) (l : List Int) (hl : l.length ≤ 65) (tl : List Int) (at0 : Int) (ht : tl.length ≤ 65) : turn_Next.f k tl at0 L p l = some (nres L p l tl at0) := by
  by_cases hg : okt tl at0 = true ∧ nodesok l = true ∧ mayd L p
  · obtain ⟨h1, h2, h3⟩ := hg
    unfold nres
    rw [if_pos ⟨h1, h2, h3⟩]
    obtain ⟨hd, ha, hb⟩ := okt_at h1
    by_cases h0 : l.length = 0
    · rw [if_pos h0]
      obtain ⟨k, rfl⟩ : ∃ m, k = m + 1 := ⟨k - 1, by omega⟩
      unfold turn_Next.f
      rw [tcheck_eq, if_pos h1, Option.bind_some, if_pos rfl, nodes_eq l (by omega) _ (by omega), if_pos h2, Option.bind_some, if_pos rfl, check_eq, if_pos h3, Option.bind_some, turn_Next.j0, if_neg (by decide), if_pos (by omega)]
    · rw [if_neg h0]
      obtain ⟨at_, rfl⟩ := Int.eq_ofNat_of_zero_le ha
      rw [Int.toNat_natCast]
      exact next_eq k hk L hL p h3 l hl (by omega) h2 tl at_ ht (by omega) hd
  · obtain ⟨k, rfl⟩ : ∃ m, k = m + 1 := ⟨k - 1, by omega⟩
    unfold nres turn_Next.f
    rw [if_neg hg, tcheck_eq, Option.bind_some]
    by_cases h1 : okt tl at0 = true
    · rw [if_pos h1, if_pos rfl, nodes_eq l (by omega) _ (by omega), Option.bind_some]
      by_cases h2 : nodesok l = true
      · have h3 : ¬mayd L p := fun h3 => hg ⟨h1, h2, h3⟩
        rw [if_pos h2, if_pos rfl, check_eq, if_neg h3, Option.bind_some, turn_Next.j0, if_pos (by decide)]
      · rw [if_neg h2, if_neg (by decide), turn_Next.j0, if_pos rfl]
    · rw [if_neg h1, if_neg (by decide), turn_Next.j0, if_pos rfl]
theorem equal_l0 (a b : List Int) (hab : a.length = b.length) (hm : a.length ≤ 1000000) : ∀ (d i k : Nat), i + d = a.length → d + 1 ≤ k → slices_Equal_int_int.l0 k a b (a.length : Int) (i : Int) = some (decide (a.drop i = b.drop i))
  | 0, i, k, hi, hk => by
    obtain ⟨k, rfl⟩ : ∃ m, k = m + 1 := ⟨k - 1, by omega⟩
    rw [slices_Equal_int_int.l0, if_neg (by omega), List.drop_of_length_le (by omega), List.drop_of_length_le (by omega)]
    rfl
  | d + 1, i, k, hi, hk => by
    obtain ⟨k, rfl⟩ : ∃ m, k = m + 1 := ⟨k - 1, by omega⟩
    have ih := equal_l0 a b hab hm d (i + 1) k (by omega) (by omega)
    have y : -9223372036854775808 ≤ (i : Int) + 1 ∧ (i : Int) + 1 ≤ 9223372036854775807 := by omega
    have ha : i < a.length := by omega
    have hb : i < b.length := by omega
    rw [slices_Equal_int_int.l0, if_pos (by omega), if_pos (by omega), if_pos (by omega), if_pos (by omega), rd_nat, rd_nat, w64_id _ y.1 y.2]
    have e1 : a.getD i 0 = a[i] := by simp [ha]
    have e2 : b.getD i 0 = b[i] := by simp [hb]
    rw [e1, e2, List.drop_eq_getElem_cons ha, List.drop_eq_getElem_cons hb]
    by_cases h : a[i] = b[i]
    · rw [if_pos h, show ((i : Int) + 1) = ((i + 1 : Nat) : Int) by omega, ih, h]
      congr 1
      rw [decide_eq_decide, List.cons.injEq]
      exact ⟨fun q => ⟨rfl, q⟩, fun q => q.2⟩
    · rw [if_neg h]
      congr 1
      symm
      rw [decide_eq_false_iff_not, List.cons.injEq]
      exact fun q => h q.1
theorem equal_eq (k : Nat) (a b : List Int) (hm : a.length ≤ 1000000) (hk : a.length + 1 ≤ k) : slices_Equal_int_int.f k a b = some (decide (a = b)) := by
  unfold slices_Equal_int_int.f
  by_cases h : a.length = b.length
  · rw [if_pos (by omega)]
    have := equal_l0 a b h hm a.length 0 k (by omega) hk
    rw [List.drop_zero, List.drop_zero] at this
    exact this
  · rw [if_neg (by omega), decide_eq_false (fun e => h (by rw [e]))]
theorem few8_all (l : List Int) : ∃ l', tattlelaw08_Few.f l = some l' ∧ l'.length ≤ 65 := by
  unfold tattlelaw08_Few.f
  by_cases h : (l.length : Int) > 65
  · rw [if_pos h, if_pos (by omega)]
    exact ⟨_, rfl, by rw [List.length_take]; omega⟩
  · rw [if_neg h]
    exact ⟨_, rfl, by omega⟩
theorem nres_len (L : ByteArray) (p : Int) (l tl : List Int) (at0 : Int) (hl : l.length ≤ 65) (ht : tl.length ≤ 65) : (nres L p l tl at0).2.1.length ≤ 65 := by
  unfold nres nxt
  split
  · split
    · exact ht
    · split
      · exact ht
      · simp only [shf_length]
        exact hl
  · exact ht
end Go.Proofs.Ytlanodnbdgiihaa.Dice
