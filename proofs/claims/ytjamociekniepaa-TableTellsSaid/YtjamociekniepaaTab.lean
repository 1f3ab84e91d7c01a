/- What the functions of package know come to, and of tables: which may be, what knows better: plain. -/
import Derived.Test.YtjamociekniepaaFnx14
import Derived.Test.YtjamociekniepaaFnx2
import Derived.Test.YtjamociekniepaaFnx3
import Derived.WalkKit
import Derived.Test.YtjamociekniepaaFnx0
namespace Go.Proofs.Ytjamociekniepaa.Know
open Go.RowKit Go.Proofs.Ytjamociekniepaa.Fn Go.Proofs.YtjamociekniepaaW.PrintWords

/-- May it be? -/
def may (a : S26) : Bool := decide (0 ≤ a.f1) && decide (a.f1 ≤ 3)
/-- Does one beat another one? -/
def bts (a b : S26) : Bool := may a && may b && (decide (b.f0 < a.f0) || (decide (a.f0 = b.f0) && decide (b.f1 < a.f1)))
/-- 0: all may be; else 1. -/
def chk (l : List S26) : Int := if l.all may then 0 else 1
/-- One more that is joined. -/
def jn (b a : S26) : S26 := if bts a b then a else b

theorem rd_at (l : List S26) (i : Nat) (h : i < l.length) : rd_T26 l (i : Int) = l[i] := by
  simp [rd_T26, h]
theorem w64 (i n : Nat) (h : i < n) (hn : n ≤ maxLen) : wrap64 ((i : Int) + 1) = ((i + 1 : Nat) : Int) := by
  simp only [maxLen] at hn
  unfold wrap64
  omega
theorem ext26 {a b : S26} (h0 : a.f0 = b.f0) (h1 : a.f1 = b.f1) : a = b := by
  cases a; cases b; simp_all

theorem check_l0 (l : List S26) (hm : l.length ≤ maxLen) : ∀ (d i k : Nat), i + d = l.length → d + 1 ≤ k → know_Check.l0 k l (l.length : Int) (i : Int) = some (if (l.drop i).all may then 0 else 1)
  | 0, i, k, hi, hk => by
    obtain ⟨k, rfl⟩ : ∃ m, k = m + 1 := ⟨k - 1, by omega⟩
    rw [know_Check.l0, if_neg (by omega), List.drop_of_length_le (by omega)]
    rfl
  | d + 1, i, k, hi, hk => by
    obtain ⟨k, rfl⟩ : ∃ m, k = m + 1 := ⟨k - 1, by omega⟩
    have hlt : i < l.length := by omega
    rw [know_Check.l0, if_pos (by omega), if_pos (by omega), if_pos (by omega), rd_at l i hlt, w64 i _ hlt hm, check_l0 l hm d (i + 1) k (by omega) (by omega), List.drop_eq_getElem_cons hlt, List.all_cons]
    by_cases h1 : l[i].f1 < 0
    · have : may l[i] = false := by simp [may]; omega
      rw [if_pos h1, this]; rfl
    · rw [if_neg h1]
      by_cases h2 : l[i].f1 > 3
      · have : may l[i] = false := by simp [may]; omega
        rw [if_pos h2, this]; rfl
      · have : may l[i] = true := by simp [may]; omega
        rw [if_neg h2, this, Bool.true_and]

theorem check_eq (k : Nat) (l : List S26) (hm : l.length ≤ maxLen) (hk : l.length + 1 ≤ k) : know_Check.f k l = some (chk l) := by
  have h := check_l0 l hm l.length 0 k (by omega) hk
  rw [List.drop_zero] at h
  exact h

theorem check2 (k : Nat) (a b : S26) (hk : 3 ≤ k) : know_Check.f k [a, b] = some (chk [a, b]) := check_eq k _ (by simp [maxLen]) (by simpa using hk)
theorem chk_le (l : List S26) : chk l = 0 ∨ chk l = 1 := by unfold chk; split <;> simp

theorem beats_eq (k : Nat) (a0 a1 b0 b1 : Int) (hk : 3 ≤ k) : know_Beats.f k a0 a1 b0 b1 = some (bts ⟨a0, a1⟩ ⟨b0, b1⟩) := by
  unfold know_Beats.f
  rw [check2 k _ _ hk, Option.bind_some]
  obtain ⟨k, rfl⟩ : ∃ m, k = m + 1 := ⟨k - 1, by omega⟩
  simp only [know_Beats.j0, chk, bts, List.all_cons, List.all_nil, Bool.and_true]
  generalize hA : may ⟨a0, a1⟩ = A
  generalize hB : may ⟨b0, b1⟩ = B
  cases A <;> cases B <;> simp
  by_cases h0 : a0 = b0
  · subst h0
    by_cases h1 : a1 = b1
    · subst h1; simp
    · simp [h1]
  · simp [h0]
end Go.Proofs.Ytjamociekniepaa.Know
namespace Go.Proofs.Ytjamociekniepaa.Fn
open Go.RowKit Go.Proofs.YtjamociekniepaaW.PrintWords Go.Proofs.YtjamociekniepaaW.PrintMore
/-- May a state be? -/
def stok (x : S26) : Bool := decide (0 ≤ x.f1) && decide (x.f1 ≤ 3)
/-- Is a node up? -/
def upk (x : S26) : Bool := decide (x.f1 = 0) || decide (x.f1 = 1)
/-- May a table be? -/
def okt (l : List S26) : Bool := decide (1 ≤ l.length ∧ l.length ≤ 64) && l.all stok
/-- Does x beat y? -/
def btk (x y : S26) : Bool := (stok x && stok y) && (!(decide (x.f0 = y.f0) && decide (x.f1 = y.f1)) && (if x.f0 = y.f0 then decide (x.f1 > y.f1) else decide (x.f0 > y.f0)))
/-- The places of which something holds. -/
def plcs (p : Nat → S26 → Bool) : List S26 → Nat → List Int
  | [], _ => []
  | x :: l, i => if p i x = true then (i : Int) :: plcs p l (i + 1) else plcs p l (i + 1)
/-- The first place. -/
def fstp (p : S26 → Bool) : List S26 → Nat → Option Nat
  | [], _ => none
  | x :: l, i => if p x = true then some i else fstp p l (i + 1)
theorem plcs_snoc (p : Nat → S26 → Bool) (x : S26) : ∀ (l : List S26) (i : Nat), plcs p (l ++ [x]) i = plcs p l i ++ (if p (i + l.length) x = true then [((i + l.length : Nat) : Int)] else [])
  | [], i => by
    simp only [List.nil_append, plcs, List.length_nil, Nat.add_zero]
  | y :: l, i => by
    have ih := plcs_snoc p x l (i + 1)
    rw [List.cons_append, plcs, plcs, ih, List.length_cons, show i + 1 + l.length = i + (l.length + 1) by omega]
    split <;> rfl
theorem plcs_length (p : Nat → S26 → Bool) : ∀ (l : List S26) (i : Nat), (plcs p l i).length ≤ l.length
  | [], i => Nat.le_refl _
  | y :: l, i => by
    have ih := plcs_length p l (i + 1)
    rw [plcs]
    split
    · rw [List.length_cons, List.length_cons]; omega
    · rw [List.length_cons]; omega
end Go.Proofs.Ytjamociekniepaa.Fn
namespace Go.Proofs.Ytjamociekniepaa.Fn
open Go.RowKit Go.Proofs.YtjamociekniepaaW.PrintWords Go.Proofs.YtjamociekniepaaW.PrintMore Go.Proofs.Ytjamociekniepaa.Know
theorem stok_may (x : S26) : stok x = may x := rfl
theorem tcheck_eq (K : Nat) (l : List S26) (hK : 100 ≤ K) : table_Check.f K l = some (if okt l = true then 0 else 1) := by
  unfold table_Check.f okt
  by_cases h1 : l.length < 1
  · rw [if_pos (by omega), decide_eq_false (by omega), Bool.false_and]
    rfl
  · rw [if_neg (by omega)]
    by_cases h2 : 64 < l.length
    · rw [if_pos (by omega), decide_eq_false (by omega), Bool.false_and]
      rfl
    · rw [if_neg (by omega), check_eq K l (by simp [maxLen]; omega) (by omega), Option.bind_some, decide_eq_true ⟨by omega, by omega⟩, Bool.true_and]
      rfl
theorem btk_eq (x y : S26) : btk x y = bts x y := by
  unfold btk bts
  rw [stok_may, stok_may]
  cases may x <;> cases may y <;> simp only [Bool.false_and, Bool.and_false, Bool.true_and, Bool.and_true]
  obtain ⟨a, b⟩ := x
  obtain ⟨c, d⟩ := y
  simp only
  by_cases h : a = c
  · subst h
    by_cases h2 : b = d
    · subst h2; simp
    · simp [h2]
  · by_cases h2 : c < a
    · simp [h, h2]
    · simp [h, h2]
theorem kbeats_eq (a0 a1 b0 b1 : Int) : know_Beats.f 3 a0 a1 b0 b1 = some (btk ⟨a0, a1⟩ ⟨b0, b1⟩) := by rw [beats_eq 3 _ _ _ _ (Nat.le_refl _), btk_eq]
end Go.Proofs.Ytjamociekniepaa.Fn
