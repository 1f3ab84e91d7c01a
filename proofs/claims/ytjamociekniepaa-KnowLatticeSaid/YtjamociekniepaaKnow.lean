/- What the functions of package know, and the document's answer for them, come to: plain facts on numbers and lists. -/
import Derived.Test.YtjamociekniepaaAw18
import Derived.Test.YtjamociekniepaaFnx0
import Derived.Test.YtjamociekniepaaFnx2
import Derived.Test.YtjamociekniepaaFnx3
import Derived.Test.YtjamociekniepaaFnx4
import Derived.Test.YtjamociekniepaaFnx5
import Derived.Test.YtjamociekniepaaFnx6
import Derived.WalkKit
namespace Go.Proofs.Ytjamociekniepaa.Know
open Go.RowKit Go.Proofs.Ytjamociekniepaa.Fn Go.Proofs.YtjamociekniepaaW.PrintWords

/-- May it be? -/
def may (a : S26) : Bool := decide (0 ≤ a.f1) && decide (a.f1 ≤ 3)
/-- Does one beat another one? -/
def bts (a b : S26) : Bool := may a && may b && (decide (b.f0 < a.f0) || (decide (a.f0 = b.f0) && decide (b.f1 < a.f1)))
/-- 0: all may be; else 1. -/
def chk (l : List S26) : Int := if l.all may then 0 else 1
/-- One more that is joined. -/
def jn (b a : S26) : S26 := if bts a b then a else b

theorem rd_at (l : List S26) (i : Nat) (h : i < l.length) : rd_T26 l (i : Int) = l[i] := by
  simp [rd_T26, h]
theorem w64 (i n : Nat) (h : i < n) (hn : n ≤ maxLen) : wrap64 ((i : Int) + 1) = ((i + 1 : Nat) : Int) := by
  simp only [maxLen] at hn
  unfold wrap64
  omega
theorem ext26 {a b : S26} (h0 : a.f0 = b.f0) (h1 : a.f1 = b.f1) : a = b := by
  cases a; cases b; simp_all

theorem check_l0 (l : List S26) (hm : l.length ≤ maxLen) : ∀ (d i k : Nat), i + d = l.length → d + 1 ≤ k → know_Check.l0 k l (l.length : Int) (i : Int) = some (if (l.drop i).all may then 0 else 1)
  | 0, i, k, hi, hk => by
    obtain ⟨k, rfl⟩ : ∃ m, k = m + 1 := ⟨k - 1, by omega⟩
    rw [know_Check.l0, if_neg (by omega), List.drop_of_length_le (by omega)]
    rfl
  | d + 1, i, k, hi, hk => by
    obtain ⟨k, rfl⟩ : ∃ m, k = m + 1 := ⟨k - 1, by omega⟩
    have hlt : i < l.length := by omega
    rw [know_Check.l0, if_pos (by omega), if_pos (by omega), if_pos (by omega), rd_at l i hlt, w64 i _ hlt hm, check_l0 l hm d (i + 1) k (by omega) (by omega), List.drop_eq_getElem_cons hlt, List.all_cons]
    by_cases h1 : l[i].f1 < 0
    · have : may l[i] = false := by simp [may]; omega
      rw [if_pos h1, this]; rfl
    · rw [if_neg h1]
      by_cases h2 : l[i].f1 > 3
      · have : may l[i] = false := by simp [may]; omega
        rw [if_pos h2, this]; rfl
      · have : may l[i] = true := by simp [may]; omega
        rw [if_neg h2, this, Bool.true_and]

theorem check_eq (k : Nat) (l : List S26) (hm : l.length ≤ maxLen) (hk : l.length + 1 ≤ k) : know_Check.f k l = some (chk l) := by
  have h := check_l0 l hm l.length 0 k (by omega) hk
  rw [List.drop_zero] at h
  exact h

theorem check2 (k : Nat) (a b : S26) (hk : 3 ≤ k) : know_Check.f k [a, b] = some (chk [a, b]) := check_eq k _ (by simp [maxLen]) (by simpa using hk)
theorem chk_le (l : List S26) : chk l = 0 ∨ chk l = 1 := by unfold chk; split <;> simp

theorem beats_eq (k : Nat) (a0 a1 b0 b1 : Int) (hk : 3 ≤ k) : know_Beats.f k a0 a1 b0 b1 = some (bts ⟨a0, a1⟩ ⟨b0, b1⟩) := by
  unfold know_Beats.f
  rw [check2 k _ _ hk, Option.bind_some]
  obtain ⟨k, rfl⟩ : ∃ m, k = m + 1 := ⟨k - 1, by omega⟩
  simp only [know_Beats.j0, chk, bts, List.all_cons, List.all_nil, Bool.and_true]
  generalize hA : may ⟨a0, a1⟩ = A
  generalize hB : may ⟨b0, b1⟩ = B
  cases A <;> cases B <;> simp
  by_cases h0 : a0 = b0
  · subst h0
    by_cases h1 : a1 = b1
    · subst h1; simp
    · simp [h1]
  · simp [h0]

theorem join_l0 (l : List S26) (hm : l.length ≤ maxLen) : ∀ (d i k : Nat) (x y : Int), i + d = l.length → d + 4 ≤ k →
    know_Join.l0 k l (l.length : Int) (i : Int) x y = some (((l.drop i).foldl jn ⟨x, y⟩).f0, ((l.drop i).foldl jn ⟨x, y⟩).f1, 0)
  | 0, i, k, x, y, hi, hk => by
    obtain ⟨k, rfl⟩ : ∃ m, k = m + 1 := ⟨k - 1, by omega⟩
    rw [know_Join.l0, if_neg (by omega), List.drop_of_length_le (by omega)]
    rfl
  | d + 1, i, k, x, y, hi, hk => by
    obtain ⟨k, rfl⟩ : ∃ m, k = m + 1 := ⟨k - 1, by omega⟩
    have hlt : i < l.length := by omega
    rw [know_Join.l0, if_pos (by omega), if_pos (by omega), if_pos (by omega), rd_at l i hlt, w64 i _ hlt hm, beats_eq _ _ _ _ _ (by omega), Option.bind_some,
      join_l0 l hm d (i + 1) k l[i].f0 l[i].f1 (by omega) (by omega), join_l0 l hm d (i + 1) k x y (by omega) (by omega), List.drop_eq_getElem_cons hlt, List.foldl_cons]
    have e : bts ⟨l[i].f0, l[i].f1⟩ ⟨x, y⟩ = bts l[i] ⟨x, y⟩ := rfl
    rw [e]
    by_cases h : bts l[i] ⟨x, y⟩ = true
    · rw [if_pos h]
      simp only [jn, h, if_true]
    · rw [if_neg h]
      simp only [jn, h]
      rfl

/-- What is joined of a list. -/
def jall (l : List S26) : S26 := l.foldl jn ⟨0, 0⟩
theorem join_eq (k : Nat) (l : List S26) (hm : l.length ≤ maxLen) (hk : l.length + 4 ≤ k) : know_Join.f k l = some (if chk l = 0 then ((jall l).f0, (jall l).f1, 0) else (0, 0, 1)) := by
  unfold know_Join.f
  rw [check_eq k l hm (by omega), Option.bind_some]
  rcases chk_le l with h | h
  · rw [h, if_pos rfl, if_pos rfl]
    have := join_l0 l hm l.length 0 k 0 0 (by omega) hk
    rw [List.drop_zero] at this
    exact this
  · rw [h, if_neg (by decide), if_neg (by decide)]

theorem may_eq (a0 a1 : Int) : tattleref05_May.f a0 a1 = some (may ⟨a0, a1⟩) := by
  unfold tattleref05_May.f may
  by_cases h : 0 ≤ a1 <;> simp [h]
theorem rbeats_eq (a0 a1 b0 b1 : Int) : tattleref05_Beats.f a0 a1 b0 b1 = some (bts ⟨a0, a1⟩ ⟨b0, b1⟩) := by
  unfold tattleref05_Beats.f bts
  simp only [may_eq, Option.bind_some]
  generalize may ⟨a0, a1⟩ = A
  generalize may ⟨b0, b1⟩ = B
  cases A <;> cases B <;> simp
  by_cases h0 : b0 < a0
  · simp [h0]
  · by_cases h1 : a0 = b0
    · subst h1; simp
    · simp [h0, h1]
theorem rjoin_eq (a0 a1 b0 b1 : Int) : tattleref05_Join.f a0 a1 b0 b1 = some ((jn ⟨b0, b1⟩ ⟨a0, a1⟩).f0, (jn ⟨b0, b1⟩ ⟨a0, a1⟩).f1) := by
  unfold tattleref05_Join.f jn
  rw [rbeats_eq, Option.bind_some]
  split <;> rfl

/-- By which incarnation one answers, and why not. -/
def rft (own k0 k1 : Int) : Int × Int :=
  if may ⟨k0, k1⟩ = true then (if k0 < own ∨ k0 = own ∧ k1 = 0 then (own, 0) else if k0 = 18446744073709551615 then (0, 4) else (k0 + 1, 0)) else (0, 1)
theorem u64_id (x : Int) (h0 : 0 ≤ x) (h : x ≤ 18446744073709551615) : IntKind.u64.wrap x = x := by
  simp [IntKind.wrap, IntKind.bits, IntKind.signed]
  omega
theorem u64_wf {x : Int} (h : (Lit.int .u64 x).wf = true) : 0 ≤ x ∧ x ≤ 18446744073709551615 := by
  simp [Lit.wf, IntKind.min, IntKind.max, IntKind.bits, IntKind.signed] at h
  omega
theorem i64_wf {x : Int} (h : (Lit.int .i64 x).wf = true) : -9223372036854775808 ≤ x ∧ x ≤ 9223372036854775807 := by
  simp [Lit.wf, IntKind.min, IntKind.max, IntKind.bits, IntKind.signed] at h
  omega
theorem u8_wf {x : Int} (h : (Lit.int .u8 x).wf = true) : 0 ≤ x ∧ x ≤ 255 := by
  simp [Lit.wf, IntKind.min, IntKind.max, IntKind.bits, IntKind.signed] at h
  omega
theorem u64_in (x : Int) (h0 : 0 ≤ x) (h : x < 18446744073709551615) : IntKind.u64.wrap (x + 1) = x + 1 := by
  simp [IntKind.wrap, IntKind.bits, IntKind.signed]
  omega
theorem refute_eq (k : Nat) (own k0 k1 : Int) (h0 : 0 ≤ k0) (h1 : k0 ≤ 18446744073709551615) (hk : 2 ≤ k) : know_Refute.f k own k0 k1 = some (rft own k0 k1) := by
  unfold know_Refute.f
  rw [check_eq k _ (by simp [maxLen]) (by simpa using hk), Option.bind_some]
  obtain ⟨k, rfl⟩ : ∃ m, k = m + 1 := ⟨k - 1, by omega⟩
  simp only [know_Refute.j0, chk, List.all_cons, List.all_nil, Bool.and_true, rft]
  generalize may ⟨k0, k1⟩ = A
  cases A
  · simp
  · simp only [if_true]
    by_cases c1 : k0 < own
    · simp [c1]
    · by_cases c2 : k0 = own
      · subst c2
        by_cases c3 : k1 = 0
        · simp [c3]
        · by_cases c4 : k0 = 18446744073709551615
          · simp [c3, c4]
          · simp [c3, c4]
            exact u64_in k0 h0 (by omega)
      · by_cases c4 : k0 = 18446744073709551615
        · subst c4
          simp [c1, c2]
        · simp [c1, c2, c4]
          exact u64_in k0 h0 (by omega)
theorem awake_eq : tattlelaw05_awakeT.f = some true := rfl
end Go.Proofs.Ytjamociekniepaa.Know
