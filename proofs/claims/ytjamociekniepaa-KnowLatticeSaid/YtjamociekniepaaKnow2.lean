/- One of two counts: the order in which what is known is joined; plain facts. -/
import Derived.Test.YtjamociekniepaaFnx0
import Derived.Test.YtjamociekniepaaFnx4
import Derived.Test.YtjamociekniepaaKnow
namespace Go.Proofs.Ytjamociekniepaa.Know
open Go.RowKit Go.Proofs.Ytjamociekniepaa.Fn Go.Proofs.YtjamociekniepaaW.PrintWords

def le (a b : S26) : Prop := a.f0 < b.f0 ∨ a.f0 = b.f0 ∧ a.f1 ≤ b.f1
theorem le_refl (a : S26) : le a a := Or.inr ⟨rfl, Int.le_refl _⟩
theorem le_trans {a b c : S26} (h : le a b) (h' : le b c) : le a c := by unfold le at *; omega
theorem le_antisymm {a b : S26} (h : le a b) (h' : le b a) : a = b := ext26 (by unfold le at *; omega) (by unfold le at *; omega)
theorem le_total (a b : S26) : le a b ∨ le b a := by unfold le; omega
theorem bts_iff {a b : S26} (ha : may a = true) (hb : may b = true) : bts a b = true ↔ ¬ le a b := by
  simp only [bts, ha, hb, Bool.and_true, Bool.true_and, Bool.or_eq_true, Bool.and_eq_true, decide_eq_true_eq, le]
  omega
theorem bts_false {a b : S26} (ha : may a = true) (hb : may b = true) (h : le a b) : bts a b = false := by
  rw [Bool.eq_false_iff]
  exact fun h1 => (bts_iff ha hb).1 h1 h
theorem bts_true {a b : S26} (ha : may a = true) (hb : may b = true) (h : ¬ le a b) : bts a b = true := (bts_iff ha hb).2 h
theorem jn_cases {a b : S26} (ha : may a = true) (hb : may b = true) : (jn b a = b ∧ le a b) ∨ (jn b a = a ∧ le b a) := by
  unfold jn
  by_cases h : le a b
  · rw [bts_false ha hb h]; exact Or.inl ⟨rfl, h⟩
  · rw [bts_true ha hb h]; exact Or.inr ⟨rfl, (le_total a b).resolve_left h⟩
theorem jn_may {a b : S26} (ha : may a = true) (hb : may b = true) : may (jn b a) = true := by
  rcases jn_cases ha hb with ⟨h, _⟩ | ⟨h, _⟩ <;> rw [h] <;> assumption
theorem jn_left {a b : S26} (ha : may a = true) (hb : may b = true) : le b (jn b a) := by
  rcases jn_cases ha hb with ⟨h, _⟩ | ⟨h, h'⟩ <;> rw [h]
  · exact le_refl _
  · exact h'
theorem jn_right {a b : S26} (ha : may a = true) (hb : may b = true) : le a (jn b a) := by
  rcases jn_cases ha hb with ⟨h, h'⟩ | ⟨h, _⟩ <;> rw [h]
  · exact h'
  · exact le_refl _
theorem jn_lub {a b c : S26} (ha : may a = true) (hb : may b = true) (h1 : le a c) (h2 : le b c) : le (jn b a) c := by
  rcases jn_cases ha hb with ⟨h, _⟩ | ⟨h, _⟩ <;> rw [h] <;> assumption
theorem fold_may : ∀ (l : List S26) (x : S26), may x = true → (∀ a ∈ l, may a = true) → may (l.foldl jn x) = true
  | [], _, h, _ => h
  | a :: l, x, h, hl => fold_may l (jn x a) (jn_may (hl a (by simp)) h) (fun b hb => hl b (by simp [hb]))
theorem fold_base : ∀ (l : List S26) (x : S26), may x = true → (∀ a ∈ l, may a = true) → le x (l.foldl jn x)
  | [], _, _, _ => le_refl _
  | a :: l, x, h, hl => le_trans (jn_left (hl a (by simp)) h) (fold_base l (jn x a) (jn_may (hl a (by simp)) h) (fun b hb => hl b (by simp [hb])))
theorem fold_mem : ∀ (l : List S26) (x : S26), may x = true → (∀ a ∈ l, may a = true) → ∀ a ∈ l, le a (l.foldl jn x)
  | [], _, _, _, a, ha => by simp at ha
  | b :: l, x, h, hl, a, ha => by
    rcases List.mem_cons.1 ha with rfl | ha
    · exact le_trans (jn_right (hl a (by simp)) h) (fold_base l (jn x a) (jn_may (hl a (by simp)) h) (fun b hb => hl b (by simp [hb])))
    · exact fold_mem l (jn x b) (jn_may (hl b (by simp)) h) (fun b hb => hl b (by simp [hb])) a ha
theorem fold_lub : ∀ (l : List S26) (x c : S26), may x = true → (∀ a ∈ l, may a = true) → le x c → (∀ a ∈ l, le a c) → le (l.foldl jn x) c
  | [], _, _, _, _, h, _ => h
  | a :: l, x, c, h, hl, hx, hc => fold_lub l (jn x a) c (jn_may (hl a (by simp)) h) (fun b hb => hl b (by simp [hb])) (jn_lub (hl a (by simp)) h (hc a (by simp)) hx) (fun b hb => hc b (by simp [hb]))
theorem chk_zero {l : List S26} : chk l = 0 ↔ ∀ a ∈ l, may a = true := by
  unfold chk
  split
  · rename_i h; simpa using h
  · rename_i h; simpa using h
theorem may_zero : may ⟨0, 0⟩ = true := by decide
theorem le_zero {a : S26} (h : 0 ≤ a.f0) (hm : may a = true) : le ⟨0, 0⟩ a := by
  simp [may] at hm
  unfold le
  simp only
  omega
/-- Two joined. -/
theorem join2 (k : Nat) {a b : S26} (ha : may a = true) (hb : may b = true) (h0 : 0 ≤ a.f0) (hk : 6 ≤ k) : know_Join.f k [a, b] = some ((jn a b).f0, (jn a b).f1, 0) := by
  rw [join_eq k _ (by simp [maxLen]) (by simpa using hk)]
  have e : chk [a, b] = 0 := chk_zero.2 (by simp [ha, hb])
  have e2 : jn ⟨0, 0⟩ a = a := by
    rcases jn_cases ha may_zero with ⟨h, h'⟩ | ⟨h, _⟩
    · rw [h]; exact le_antisymm (le_zero h0 ha) h'
    · exact h
  rw [e, if_pos rfl]
  simp only [jall, List.foldl_cons, List.foldl_nil, e2]
end Go.Proofs.Ytjamociekniepaa.Know
