/- The number that stands at a place of a list in order: how many are no less. Plain. -/
import Derived.Test.YtgfblogneggpmaaHand
namespace Go.Proofs.Ytgfblogneggpmaa.Thr
def ins (x : Int) : List Int → List Int
  | [] => [x]
  | y :: l => if x ≤ y then x :: y :: l else y :: ins x l
/-- In order. -/
def ord : List Int → List Int
  | [] => []
  | x :: l => ins x (ord l)
theorem ins_perm (x : Int) : ∀ l : List Int, (ins x l).Perm (x :: l)
  | [] => List.Perm.refl _
  | y :: l => by
    rw [ins]
    split
    · exact List.Perm.refl _
    · exact ((ins_perm x l).cons y).trans (List.Perm.swap x y l)
theorem ord_perm : ∀ l : List Int, (ord l).Perm l
  | [] => List.Perm.refl _
  | x :: l => (ins_perm x (ord l)).trans ((ord_perm l).cons x)
theorem ins_sorted (x : Int) : ∀ l : List Int, l.Pairwise (· ≤ ·) → (ins x l).Pairwise (· ≤ ·)
  | [], _ => by simp [ins]
  | y :: l, h => by
    rw [List.pairwise_cons] at h
    rw [ins]
    split
    · rename_i hx
      rw [List.pairwise_cons, List.pairwise_cons]
      refine ⟨fun z hz => ?_, h⟩
      rcases List.mem_cons.1 hz with e | hz
      · omega
      · have := h.1 z hz
        omega
    · rename_i hx
      rw [List.pairwise_cons]
      refine ⟨fun z hz => ?_, ins_sorted x l h.2⟩
      rcases List.mem_cons.1 ((ins_perm x l).mem_iff.1 hz) with e | hz
      · omega
      · exact h.1 z hz
theorem ord_sorted : ∀ l : List Int, (ord l).Pairwise (· ≤ ·)
  | [] => List.Pairwise.nil
  | x :: l => ins_sorted x _ (ord_sorted l)
theorem ord_length (l : List Int) : (ord l).length = l.length := (ord_perm l).length_eq
/-- Two lists in order, of the same numbers, are the same. -/
theorem sorted_eq : ∀ (a b : List Int), a.Pairwise (· ≤ ·) → b.Pairwise (· ≤ ·) → a.Perm b → a = b
  | [], b, _, _, h => (List.nil_perm.1 h).symm
  | x :: a, [], _, _, h => by simpa using h.length_eq
  | x :: a, y :: b, ha, hb, h => by
    rw [List.pairwise_cons] at ha hb
    have e : x = y := by
      have h1 : x ∈ y :: b := h.mem_iff.1 (by simp)
      have h2 : y ∈ x :: a := h.mem_iff.2 (by simp)
      rcases List.mem_cons.1 h1 with h1 | h1
      · exact h1
      · rcases List.mem_cons.1 h2 with h2 | h2
        · exact h2.symm
        · have := hb.1 x h1
          have := ha.1 y h2
          omega
    subst e
    rw [sorted_eq a b ha.2 hb.2 (List.Perm.cons_inv h)]
/-- The number at the place from which m are left. -/
def thr (l : List Int) (m : Nat) : Int := (ord l).getD (l.length - m) 0
theorem sorted_le {s : List Int} (h : s.Pairwise (· ≤ ·)) {i j : Nat} (hij : i ≤ j) (hj : j < s.length) : s.getD i 0 ≤ s.getD j 0 := by
  have e1 : s.getD i 0 = s[i]'(by omega) := by simp [show i < s.length by omega]
  have e2 : s.getD j 0 = s[j] := by simp [hj]
  rw [e1, e2]
  by_cases e : i = j
  · subst e
    exact Int.le_refl _
  · exact List.pairwise_iff_getElem.1 h i j (by omega) hj (by omega)
theorem thr_many (l : List Int) (m : Nat) (h1 : 1 ≤ m) (h2 : m ≤ l.length) : m ≤ l.countP (fun x => decide (thr l m ≤ x)) := by
  unfold thr
  rw [← (ord_perm l).countP_eq]
  have hs := ord_sorted l
  have hl := ord_length l
  generalize ord l = s at *
  have e : s.countP (fun x => decide (s.getD (l.length - m) 0 ≤ x)) = (s.take (l.length - m)).countP (fun x => decide (s.getD (l.length - m) 0 ≤ x)) + (s.drop (l.length - m)).countP (fun x => decide (s.getD (l.length - m) 0 ≤ x)) := by
    rw [← List.countP_append, List.take_append_drop]
  have e2 : (s.drop (l.length - m)).countP (fun x => decide (s.getD (l.length - m) 0 ≤ x)) = (s.drop (l.length - m)).length := by
    rw [List.countP_eq_length]
    intro x hx
    obtain ⟨j, hj, rfl⟩ := List.getElem_of_mem hx
    rw [List.length_drop] at hj
    rw [decide_eq_true_eq, List.getElem_drop]
    have := sorted_le hs (show l.length - m ≤ l.length - m + j by omega) (by omega)
    have e3 : s.getD (l.length - m + j) 0 = s[l.length - m + j]'(by omega) := by simp [show l.length - m + j < s.length by omega]
    rw [e3] at this
    exact this
  rw [List.length_drop] at e2
  omega
theorem thr_most (l : List Int) (m : Nat) (h1 : 1 ≤ m) (h2 : m ≤ l.length) (v : Int) (hv : m ≤ l.countP (fun x => decide (v ≤ x))) : v ≤ thr l m := by
  unfold thr
  rw [← (ord_perm l).countP_eq] at hv
  have hs := ord_sorted l
  have hl := ord_length l
  generalize ord l = s at *
  refine Int.not_lt.1 fun hlt => ?_
  have e : s.countP (fun x => decide (v ≤ x)) = (s.take (l.length - m + 1)).countP (fun x => decide (v ≤ x)) + (s.drop (l.length - m + 1)).countP (fun x => decide (v ≤ x)) := by
    rw [← List.countP_append, List.take_append_drop]
  have e2 : (s.take (l.length - m + 1)).countP (fun x => decide (v ≤ x)) = 0 := by
    rw [List.countP_eq_zero]
    intro x hx
    obtain ⟨j, hj, rfl⟩ := List.getElem_of_mem hx
    rw [List.length_take] at hj
    rw [decide_eq_true_eq, List.getElem_take]
    have := sorted_le hs (show j ≤ l.length - m by omega) (by omega)
    have e3 : s.getD j 0 = s[j]'(by omega) := by simp [show j < s.length by omega]
    rw [e3] at this
    omega
  have e3 := List.countP_le_length (p := fun x => decide (v ≤ x)) (l := s.drop (l.length - m + 1))
  rw [List.length_drop] at e3
  omega
/-- It is the greatest one that so many are no less than. -/
theorem thr_is (l : List Int) (m : Nat) (h1 : 1 ≤ m) (h2 : m ≤ l.length) (v : Int) (hv : m ≤ l.countP (fun x => decide (v ≤ x))) (hu : ∀ u, m ≤ l.countP (fun x => decide (u ≤ x)) → u ≤ v) : thr l m = v := by
  have := thr_most l m h1 h2 v hv
  have := hu _ (thr_many l m h1 h2)
  omega
theorem countP_le_of : ∀ (a b : List Int) (v u : Int), a.length = b.length → (∀ i : Nat, i < a.length → v ≤ a.getD i 0 → u ≤ b.getD i 0) → a.countP (fun x => decide (v ≤ x)) ≤ b.countP (fun x => decide (u ≤ x))
  | [], b, _, _, _, _ => by simp
  | x :: a, [], _, _, h, _ => by simp at h
  | x :: a, y :: b, v, u, h, hi => by
    have ih := countP_le_of a b v u (by simpa using h) (fun i h1 h2 => by
      have := hi (i + 1) (by simp; omega) (by simpa using h2)
      simpa using this)
    have h0 := hi 0 (by simp)
    rw [List.countP_cons, List.countP_cons]
    by_cases hx : v ≤ x
    · have hy : u ≤ y := by simpa using h0 (by simpa using hx)
      rw [if_pos (by simpa using hx), if_pos (by simpa using hy)]
      omega
    · rw [if_neg (by simpa using hx)]
      split <;> omega
theorem thr_mono (a b : List Int) (m : Nat) (h1 : 1 ≤ m) (h2 : m ≤ a.length) (hl : a.length = b.length) (h : ∀ i : Nat, i < a.length → a.getD i 0 ≤ b.getD i 0) : thr a m ≤ thr b m := by
  refine thr_most b m h1 (by omega) _ ?_
  have h3 := thr_many a m h1 h2
  have h4 := countP_le_of a b (thr a m) (thr a m) hl (fun i hi hv => by have := h i hi; omega)
  omega
end Go.Proofs.Ytgfblogneggpmaa.Thr
