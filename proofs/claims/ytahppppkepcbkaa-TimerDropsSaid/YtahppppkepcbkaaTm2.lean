/- Timers, plain: what the printed functions of the chapter, and the document's, come to. -/
import Derived.Test.YtahppppkepcbkaaFnx0
import Derived.Test.YtahppppkepcbkaaFnx22
import Derived.Test.YtahppppkepcbkaaFnx23
import Derived.Test.YtahppppkepcbkaaFnx27
import Derived.Test.YtahppppkepcbkaaFnx28
import Derived.Test.YtahppppkepcbkaaFnx29
import Derived.Test.YtahppppkepcbkaaFnx32
import Derived.Test.YtahppppkepcbkaaFnx33
import Derived.Test.YtahppppkepcbkaaExDue
import Derived.Test.YtahppppkepcbkaaExDrop
namespace Go.Proofs.Ytahppppkepcbkaa.Fn
open Go.RowKit Go.Proofs.YtahppppkepcbkaaW.PrintWords Go.Proofs.YtahppppkepcbkaaW.PrintMore Go.Proofs.Ytahppppkepcbkaa.Tm
set_option linter.unusedVariables false
set_option linter.unusedSimpArgs false
theorem tless_any (K : Nat) (a b : S52) (hK : 10 ≤ K) : timer_Less.f K a.f0 a.f1 a.f2 a.f3 b.f0 b.f1 b.f2 b.f3 = some (lt a b) := by
  unfold timer_Less.f
  rw [compare_eq K a b hK, Option.bind_some]
  unfold lt
  rw [decide_eq_decide.2 (tcmp_lt a b)]
theorem rless_eq (a b : S52) : tattleref03_Less.f a.f0 a.f1 a.f2 a.f3 b.f0 b.f1 b.f2 b.f3 = some (lt a b) := by
  obtain ⟨a0, a1, a2, a3⟩ := a
  obtain ⟨b0, b1, b2, b3⟩ := b
  unfold tattleref03_Less.f lt tlt
  simp only
  by_cases h0 : a0 = b0
  · subst h0
    rw [if_pos rfl]
    by_cases h1 : a1 = b1
    · subst h1
      rw [if_pos rfl]
      by_cases h2 : a2 = b2
      · subst h2
        rw [if_pos rfl]
        simp
      · rw [if_neg h2]
        simp [h2]
    · rw [if_neg h1]
      simp [h1]
  · rw [if_neg h0]
    simp [h0]
def tfew (l : List S52) : List S52 := if 257 < l.length then l.take 257 else l
theorem tfew_eq (l : List S52) : tattlelaw03_Few.f l = some (tfew l) := by
  unfold tattlelaw03_Few.f tfew
  by_cases h : 257 < l.length
  · rw [if_pos (by omega), if_pos (by omega), if_pos h]
  · rw [if_neg (by omega), if_neg h]
theorem tfew_len (l : List S52) : (tfew l).length ≤ 257 := by
  unfold tfew
  split
  · rw [List.length_take]; omega
  · omega
theorem wup (i n : Nat) (h : i < n) (hn : n ≤ 600) : wrap64 ((i : Int) + 1) = ((i + 1 : Nat) : Int) := by unfold wrap64; omega
theorem tsame_l0 {a b : List S52} (hl : a.length = b.length) (hm : a.length ≤ 600) : ∀ (d i K : Nat), i + d = a.length → d + 1 ≤ K →
    tattleref03_Same.l0 K a b (i : Int) = some (decide (a.drop i = b.drop i))
  | 0, i, K, hi, hK => by
    obtain ⟨K, rfl⟩ : ∃ m, K = m + 1 := ⟨K - 1, by omega⟩
    rw [tattleref03_Same.l0, if_neg (by omega), List.drop_of_length_le (by omega), List.drop_of_length_le (by omega), decide_eq_true rfl]
  | d + 1, i, K, hi, hK => by
    obtain ⟨K, rfl⟩ : ∃ m, K = m + 1 := ⟨K - 1, by omega⟩
    have h1 : i < a.length := by omega
    have h2 : i < b.length := by omega
    have e1 : rd_T52 a (i : Int) = a[i] := by simp [rd_T52, h1]
    have e2 : rd_T52 b (i : Int) = b[i] := by simp [rd_T52, h2]
    rw [tattleref03_Same.l0, if_pos (by omega), if_pos (by omega), if_pos (by omega), e1, e2, wup i _ h1 hm, tsame_l0 hl hm d (i + 1) K (by omega) (by omega), List.drop_eq_getElem_cons h1, List.drop_eq_getElem_cons h2]
    by_cases h : a[i] = b[i]
    · rw [if_neg (by rw [h]; simp)]
      congr 1
      rw [decide_eq_decide, List.cons.injEq]
      exact ⟨fun q => ⟨h, q⟩, fun q => q.2⟩
    · rw [if_pos, decide_eq_false (by rw [List.cons.injEq]; exact fun q => h q.1)]
      by_cases q0 : a[i].f0 = b[i].f0
      · by_cases q1 : a[i].f1 = b[i].f1
        · by_cases q2 : a[i].f2 = b[i].f2
          · have q3 : a[i].f3 ≠ b[i].f3 := fun q3 => h (ext52 q0 q1 q2 q3)
            simp [q3]
          · simp [q2]
        · simp [q1]
      · simp [q0]
theorem tsame_eq (K : Nat) (a b : List S52) (hm : a.length ≤ 600) (hK : 700 ≤ K) : tattleref03_Same.f K a b = some (decide (a = b)) := by
  unfold tattleref03_Same.f
  by_cases hl : a.length = b.length
  · rw [if_pos (by omega)]
    exact tsame_l0 hl hm a.length 0 K (by omega) (by omega)
  · rw [if_neg (by omega), decide_eq_false (fun q => hl (by rw [q]))]
theorem tmay_l0 (l : List S52) (hm : l.length ≤ 600) : ∀ (d i K : Nat), i + d = l.length → 1 ≤ i → d + 1 ≤ K → (∀ j, j + 1 < i → lt (Tm.g l (j + 1)) (Tm.g l j) = false) →
    tattleref03_May.l0 K l (i : Int) = some (okl l)
  | 0, i, K, hi, h1, hK, hs => by
    obtain ⟨K, rfl⟩ : ∃ m, K = m + 1 := ⟨K - 1, by omega⟩
    have hb : srtB l = true := by
      unfold srtB
      rw [List.all_eq_true]
      intro j hj
      rw [List.mem_range] at hj
      rw [hs j (by omega)]
      rfl
    rw [tattleref03_May.l0, if_neg (by omega)]
    unfold okl
    rw [hb, Bool.and_true]
    congr 1
    rw [decide_eq_decide]
    omega
  | d + 1, i, K, hi, h1, hK, hs => by
    obtain ⟨K, rfl⟩ : ∃ m, K = m + 1 := ⟨K - 1, by omega⟩
    obtain ⟨i, rfl⟩ : ∃ m, i = m + 1 := ⟨i - 1, by omega⟩
    have hw : wrap64 (((i + 1 : Nat) : Int) - 1) = (i : Int) := by unfold wrap64; omega
    have e := rless_eq (Tm.g l (i + 1)) (Tm.g l i)
    rw [tattleref03_May.l0, if_pos (by omega), if_pos (by omega), hw, if_pos (by omega), if_pos (by omega), rd_g, rd_g, e, Option.bind_some]
    cases hl : lt (Tm.g l (i + 1)) (Tm.g l i) with
    | true =>
      have hb : srtB l = false := by
        unfold srtB
        rw [List.all_eq_false]
        exact ⟨i, by rw [List.mem_range]; omega, by rw [hl]; decide⟩
      rw [if_pos rfl]
      unfold okl
      rw [hb, Bool.and_false]
    | false =>
      rw [if_neg Bool.false_ne_true, wup (i + 1) l.length (by omega) hm]
      refine tmay_l0 l hm d (i + 1 + 1) K (by omega) (by omega) (by omega) fun j hj => ?_
      by_cases q : j = i
      · subst q; exact hl
      · exact hs j (by omega)
theorem tmay_eq (K : Nat) (l : List S52) (hm : l.length ≤ 600) (hK : 700 ≤ K) : tattleref03_May.f K l = some (okl l) := by
  unfold tattleref03_May.f
  by_cases h : 1 ≤ l.length
  · exact tmay_l0 l hm (l.length - 1) 1 K (by omega) (Nat.le_refl _) (by omega) (fun j hj => absurd hj (by omega))
  · obtain rfl := List.eq_nil_of_length_eq_zero (show l.length = 0 by omega)
    obtain ⟨K, rfl⟩ : ∃ m, K = m + 1 := ⟨K - 1, by omega⟩
    rw [tattleref03_May.l0, if_neg (by simp)]
    rfl
/-! ### Sorting by rank -/
/-- Where a timer belongs. -/
def rank (l : List S52) (i : Nat) : Nat := l.countP (fun y => lt y (Tm.g l i)) + (l.take i).count (Tm.g l i)
theorem srt_place : ∀ (S : List S52), srt S → ∀ (x : S52) (p : Nat), S.countP (fun y => lt y x) ≤ p → p < S.countP (fun y => lt y x) + S.count x → Tm.g S p = x
  | [], _, x, p, h1, h2 => by simp at h2
  | a :: S, h, x, p, h1, h2 => by
    rw [List.countP_cons, List.count_cons] at h2
    rw [List.countP_cons] at h1
    rcases lt_tri a x with q | q | q
    · have hl : lt a x = true := (lt_iff _ _).2 q
      have hne : (a == x) = false := by rw [beq_eq_false_iff_ne]; rintro rfl; exact lt_irr _ q
      rw [hl, if_pos rfl] at h1
      rw [hl, hne, if_pos rfl, if_neg Bool.false_ne_true] at h2
      obtain ⟨p, rfl⟩ : ∃ m, p = m + 1 := ⟨p - 1, by omega⟩
      have := srt_place S h.2 x p (by omega) (by omega)
      simpa [Tm.g] using this
    · subst q
      cases p with
      | zero => simp [Tm.g]
      | succ p =>
        have hc : S.countP (fun y => lt y a) = 0 := by
          rw [List.countP_eq_zero]
          intro y hy hl
          exact h.1 y hy ((lt_iff _ _).1 hl)
        have hl : lt a a = false := by
          cases hc : lt a a with
          | false => rfl
          | true => exact absurd ((lt_iff _ _).1 hc) (lt_irr a)
        rw [hl, hc, if_neg Bool.false_ne_true, beq_self_eq_true, if_pos rfl] at h2
        have := srt_place S h.2 a p (by omega) (by omega)
        simpa [Tm.g] using this
    · exfalso
      have hc : S.count x = 0 := by
        rw [List.count_eq_zero]
        intro hx
        exact h.1 x hx q
      have hl : lt a x = false := by
        cases hc : lt a x with
        | false => rfl
        | true => exact absurd q (lt_asymm ((lt_iff _ _).1 hc))
      have hne : (a == x) = false := by rw [beq_eq_false_iff_ne]; rintro rfl; exact lt_irr _ q
      rw [hl, hc, hne, if_neg Bool.false_ne_true] at h2
      rw [hl, if_neg Bool.false_ne_true] at h1
      omega
theorem srt_find : ∀ (S : List S52), srt S → ∀ p, p < S.length → S.countP (fun y => lt y (Tm.g S p)) ≤ p ∧ p < S.countP (fun y => lt y (Tm.g S p)) + S.count (Tm.g S p)
  | [], _, p, hp => by simp at hp
  | a :: S, h, p, hp => by
    have hna : ∀ x, lt a x = false → (∀ y ∈ S, Tm.le a y) → True := fun _ _ _ => trivial
    cases p with
    | zero =>
      have e : Tm.g (a :: S) 0 = a := by simp [Tm.g]
      have hc : (a :: S).countP (fun y => lt y a) = 0 := by
        rw [List.countP_eq_zero]
        intro y hy hl
        rcases List.mem_cons.1 hy with rfl | hy
        · exact lt_irr _ ((lt_iff _ _).1 hl)
        · exact h.1 y hy ((lt_iff _ _).1 hl)
      rw [e, hc, List.count_cons_self]
      omega
    | succ p =>
      have hp' : p < S.length := by simpa using hp
      have e : Tm.g (a :: S) (p + 1) = Tm.g S p := by simp [Tm.g]
      obtain ⟨q1, q2⟩ := srt_find S h.2 p hp'
      have hm : Tm.g S p ∈ S := by
        have : Tm.g S p = S[p] := by simp [Tm.g, hp']
        rw [this]
        exact List.getElem_mem hp'
      rw [e, List.countP_cons, List.count_cons]
      generalize hx : Tm.g S p = x at *
      rcases lt_tri a x with q | q | q
      · have hl : lt a x = true := (lt_iff _ _).2 q
        have hne : (a == x) = false := by rw [beq_eq_false_iff_ne]; rintro rfl; exact lt_irr _ q
        rw [hl, hne, if_pos rfl, if_neg Bool.false_ne_true]
        omega
      · subst q
        have hl : lt a a = false := by
          cases hc : lt a a with
          | false => rfl
          | true => exact absurd ((lt_iff _ _).1 hc) (lt_irr a)
        rw [hl, if_neg Bool.false_ne_true, beq_self_eq_true, if_pos rfl]
        omega
      · exact absurd q (h.1 x hm)
theorem kth (x : S52) : ∀ (l : List S52) (k : Nat), k < l.count x → ∃ i, i < l.length ∧ Tm.g l i = x ∧ (l.take i).count x = k
  | [], k, h => by simp at h
  | a :: l, k, h => by
    rw [List.count_cons] at h
    by_cases q : a = x
    · subst q
      rw [beq_self_eq_true, if_pos rfl] at h
      cases k with
      | zero => exact ⟨0, by simp, by simp [Tm.g], by simp⟩
      | succ k =>
        obtain ⟨i, h1, h2, h3⟩ := kth a l k (by omega)
        exact ⟨i + 1, by simpa using h1, by simpa [Tm.g] using h2, by rw [List.take_succ_cons, List.count_cons_self, h3]⟩
    · have hne : (a == x) = false := by rw [beq_eq_false_iff_ne]; exact q
      rw [hne, if_neg Bool.false_ne_true] at h
      obtain ⟨i, h1, h2, h3⟩ := kth x l k (by omega)
      exact ⟨i + 1, by simpa using h1, by simpa [Tm.g] using h2, by rw [List.take_succ_cons, List.count_cons, hne, if_neg Bool.false_ne_true, h3]; rfl⟩
theorem take_count (l : List S52) (i : Nat) (hi : i < l.length) : (l.take i).count (Tm.g l i) < l.count (Tm.g l i) := by
  have e : l = l.take i ++ Tm.g l i :: l.drop (i + 1) := by
    have : Tm.g l i = l[i] := by simp [Tm.g, hi]
    rw [this, ← List.drop_eq_getElem_cons hi, List.take_append_drop]
  have h2 : l.count (Tm.g l i) = (l.take i ++ Tm.g l i :: l.drop (i + 1)).count (Tm.g l i) := by rw [← e]
  rw [h2, List.count_append, List.count_cons_self]
  omega
theorem rank_at (l : List S52) (i : Nat) (hi : i < l.length) : Tm.g (isort l) (rank l i) = Tm.g l i ∧ rank l i < l.length := by
  have hp := isort_perm l
  have h1 := hp.countP_eq (fun y => lt y (Tm.g l i))
  have h2 := hp.count_eq (Tm.g l i)
  have h3 := take_count l i hi
  refine ⟨srt_place _ (isort_srt l) _ _ (by unfold rank; omega) (by unfold rank; omega), ?_⟩
  have h4 : l.countP (fun y => lt y (Tm.g l i)) + l.count (Tm.g l i) ≤ l.length := by
    have : ∀ (m : List S52) (x : S52), m.countP (fun y => lt y x) + m.count x ≤ m.length := by
      intro m x
      induction m with
      | nil => simp
      | cons a m ih =>
        rw [List.countP_cons, List.count_cons, List.length_cons]
        by_cases q : a = x
        · subst q
          have hl : lt a a = false := by
            cases hc : lt a a with
            | false => rfl
            | true => exact absurd ((lt_iff _ _).1 hc) (lt_irr a)
          rw [hl, if_neg Bool.false_ne_true, beq_self_eq_true, if_pos rfl]
          omega
        · have hne : (a == x) = false := by rw [beq_eq_false_iff_ne]; exact q
          rw [hne, if_neg Bool.false_ne_true]
          split <;> omega
    exact this l _
  unfold rank
  omega
theorem rank_all (l : List S52) (p : Nat) (hp : p < l.length) : ∃ i, i < l.length ∧ rank l i = p := by
  have hpm := isort_perm l
  have hlen := hpm.length_eq
  obtain ⟨q1, q2⟩ := srt_find (isort l) (isort_srt l) p (by omega)
  rw [hpm.countP_eq, hpm.count_eq] at q2
  rw [hpm.countP_eq] at q1
  obtain ⟨i, h1, h2, h3⟩ := kth (Tm.g (isort l) p) l (p - l.countP (fun y => lt y (Tm.g (isort l) p))) (by omega)
  refine ⟨i, h1, ?_⟩
  unfold rank
  rw [h2, h3]
  omega
theorem sort_l1 (l : List S52) (hm : l.length ≤ 600) (r : List S52) (m : Nat) (hml : m < l.length) : ∀ (d i K c : Nat), i + d = l.length → d + 1 ≤ K → c ≤ i → r.length = l.length → c + (l.drop i).countP (fun y => lt y (Tm.g l m)) + ((l.take m).drop i).count (Tm.g l m) = rank l m →
    ∃ K', K - d - 1 ≤ K' ∧ K' ≤ K ∧ tattleref03_Sort.l1 K l r (m : Int) (c : Int) (i : Int) = tattleref03_Sort.l0 K' l (r.set (rank l m) (Tm.g l m)) ((m + 1 : Nat) : Int)
  | 0, i, K, c, hi, hK, hc, hr, hs => by
    obtain ⟨K, rfl⟩ : ∃ m, K = m + 1 := ⟨K - 1, by omega⟩
    rw [List.drop_of_length_le (by omega), List.drop_of_length_le (by rw [List.length_take]; omega)] at hs
    simp at hs
    have hrk := (rank_at l m hml).2
    refine ⟨K, by omega, by omega, ?_⟩
    rw [tattleref03_Sort.l1, if_neg (by omega), if_pos (by omega), if_pos (by omega), if_pos (by omega), if_pos (by omega), Int.toNat_natCast, hs, rd_g, wup m _ hml hm]
  | d + 1, i, K, c, hi, hK, hc, hr, hs => by
    obtain ⟨K, rfl⟩ : ∃ m, K = m + 1 := ⟨K - 1, by omega⟩
    have h1 : i < l.length := by omega
    have eg : l[i] = Tm.g l i := by simp [Tm.g, h1]
    have e := rless_eq (Tm.g l i) (Tm.g l m)
    have ed : l.drop i = Tm.g l i :: l.drop (i + 1) := by rw [List.drop_eq_getElem_cons h1, eg]
    rw [ed, List.countP_cons] at hs
    rw [tattleref03_Sort.l1, if_pos (by omega), if_pos (by omega), if_pos (by omega), if_pos (by omega), rd_g, rd_g, e, Option.bind_some, wup i _ h1 hm]
    have hi1 : i + 1 + d = l.length := by omega
    have heqb : (((Tm.g l i).f0 == (Tm.g l m).f0) && (((Tm.g l i).f1 == (Tm.g l m).f1) && (((Tm.g l i).f2 == (Tm.g l m).f2) && ((Tm.g l i).f3 == (Tm.g l m).f3)))) = decide (Tm.g l i = Tm.g l m) := by
      by_cases q : Tm.g l i = Tm.g l m
      · rw [q, decide_eq_true rfl]; simp
      · rw [decide_eq_false q, Bool.eq_false_iff]
        intro q'
        rw [Bool.and_eq_true, Bool.and_eq_true, Bool.and_eq_true, beq_iff_eq, beq_iff_eq, beq_iff_eq, beq_iff_eq] at q'
        exact q (ext52 q'.1 q'.2.1 q'.2.2.1 q'.2.2.2)
    rw [heqb]
    have HW := Lib.hid (wup c l.length (by omega) hm)
    by_cases him : i < m
    · have et : (l.take m).drop i = Tm.g l i :: (l.take m).drop (i + 1) := by
        have h2 : i < (l.take m).length := by rw [List.length_take]; omega
        rw [List.drop_eq_getElem_cons h2, List.getElem_take, eg]
      rw [et, List.count_cons] at hs
      cases hl : lt (Tm.g l i) (Tm.g l m) with
      | true =>
        have hne : (Tm.g l i == Tm.g l m) = false := by rw [beq_eq_false_iff_ne]; intro q; rw [q] at hl; exact lt_irr _ ((lt_iff _ _).1 hl)
        rw [hl, hne, if_pos rfl, if_neg Bool.false_ne_true] at hs
        rw [if_pos rfl, HW.out]
        obtain ⟨K', a, b, c'⟩ := sort_l1 l hm r m hml d (i + 1) K (c + 1) hi1 (by omega) (by omega) hr (by omega)
        exact ⟨K', by omega, by omega, c'⟩
      | false =>
        rw [hl, if_neg Bool.false_ne_true] at hs
        rw [if_neg Bool.false_ne_true]
        by_cases q : Tm.g l i = Tm.g l m
        · rw [q, beq_self_eq_true, if_pos rfl] at hs
          rw [decide_eq_true q, if_pos rfl, if_pos (by omega), HW.out]
          obtain ⟨K', a, b, c'⟩ := sort_l1 l hm r m hml d (i + 1) K (c + 1) hi1 (by omega) (by omega) hr (by omega)
          exact ⟨K', by omega, by omega, c'⟩
        · have hne : (Tm.g l i == Tm.g l m) = false := by rw [beq_eq_false_iff_ne]; exact q
          rw [hne, if_neg Bool.false_ne_true] at hs
          rw [decide_eq_false q, if_neg Bool.false_ne_true]
          obtain ⟨K', a, b, c'⟩ := sort_l1 l hm r m hml d (i + 1) K c hi1 (by omega) (by omega) hr (by omega)
          exact ⟨K', by omega, by omega, c'⟩
    · have et : (l.take m).drop i = [] := List.drop_of_length_le (by rw [List.length_take]; omega)
      have et' : (l.take m).drop (i + 1) = [] := List.drop_of_length_le (by rw [List.length_take]; omega)
      rw [et] at hs
      cases hl : lt (Tm.g l i) (Tm.g l m) with
      | true =>
        rw [hl, if_pos rfl] at hs
        rw [if_pos rfl, HW.out]
        obtain ⟨K', a, b, c'⟩ := sort_l1 l hm r m hml d (i + 1) K (c + 1) hi1 (by omega) (by omega) hr (by rw [et']; omega)
        exact ⟨K', by omega, by omega, c'⟩
      | false =>
        rw [hl, if_neg Bool.false_ne_true] at hs
        rw [if_neg Bool.false_ne_true]
        obtain ⟨K', a, b, c'⟩ := sort_l1 l hm r m hml d (i + 1) K c hi1 (by omega) (by omega) hr (by rw [et']; omega)
        by_cases q : Tm.g l i = Tm.g l m
        · rw [decide_eq_true q, if_pos rfl, if_neg (by omega)]
          exact ⟨K', by omega, by omega, c'⟩
        · rw [decide_eq_false q, if_neg Bool.false_ne_true]
          exact ⟨K', by omega, by omega, c'⟩
theorem sort_l0 (l : List S52) (hm : l.length ≤ 600) : ∀ (d m K : Nat) (r : List S52), m + d = l.length → 700 * d + 1 ≤ K → r.length = l.length → (∀ i, i < m → Tm.g r (rank l i) = Tm.g (isort l) (rank l i)) →
    tattleref03_Sort.l0 K l r (m : Int) = some (isort l)
  | 0, m, K, r, hd, hK, hr, hs => by
    obtain ⟨K, rfl⟩ : ∃ m, K = m + 1 := ⟨K - 1, by omega⟩
    rw [tattleref03_Sort.l0, if_neg (by omega)]
    congr 1
    have hlen := (isort_perm l).length_eq
    refine List.ext_getElem (by omega) fun p h1 h2 => ?_
    obtain ⟨i, hi, hp⟩ := rank_all l p (by omega)
    have := hs i (by omega)
    rw [hp] at this
    have e1 : Tm.g r p = r[p] := by simp [Tm.g, h1]
    have e2 : Tm.g (isort l) p = (isort l)[p] := by simp [Tm.g, h2]
    rwa [e1, e2] at this
  | d + 1, m, K, r, hd, hK, hr, hs => by
    obtain ⟨K, rfl⟩ : ∃ m, K = m + 1 := ⟨K - 1, by omega⟩
    have hml : m < l.length := by omega
    have hrk := rank_at l m hml
    rw [tattleref03_Sort.l0, if_pos (by omega)]
    obtain ⟨K', a, b, c⟩ := sort_l1 l hm r m hml l.length 0 K 0 (by omega) (by omega) (Nat.le_refl _) hr (by rw [List.drop_zero, List.drop_zero]; unfold rank; omega)
    rw [show ((0 : Nat) : Int) = 0 from rfl] at c
    rw [c]
    refine sort_l0 l hm d (m + 1) K' _ (by omega) (by omega) (by rw [List.length_set]; exact hr) fun i hi => ?_
    have hset : ∀ p, Tm.g (r.set (rank l m) (Tm.g l m)) p = if p = rank l m then Tm.g l m else Tm.g r p := by
      intro p
      simp only [Tm.g, List.getD_eq_getElem?_getD, List.getElem?_set]
      by_cases q : rank l m = p
      · subst q
        rw [if_pos rfl, if_pos rfl, if_pos (by omega)]
        rfl
      · rw [if_neg q, if_neg (fun q' => q q'.symm)]
    rw [hset]
    by_cases q : rank l i = rank l m
    · rw [if_pos q, q, hrk.1]
    · rw [if_neg q]
      exact hs i (by by_cases q' : i = m; · subst q'; exact absurd rfl q
                     · omega)
theorem tsort_eq (K : Nat) (l : List S52) (hm : l.length ≤ 600) (hK : 500000 ≤ K) : tattleref03_Sort.f K l = some (isort l) := by
  unfold tattleref03_Sort.f
  rw [if_pos (by omega), if_pos (by rw [Int.toNat_natCast]; omega), Int.toNat_natCast]
  exact sort_l0 l hm l.length 0 K _ (by omega) (by omega) (by simp) (fun i hi => absurd hi (by omega))
end Go.Proofs.Ytahppppkepcbkaa.Fn
/- Timers, plain: the document's Due and Drop. -/
namespace Go.Proofs.Ytahppppkepcbkaa.Fn
open Go.RowKit Go.Proofs.YtahppppkepcbkaaW.PrintWords Go.Proofs.YtahppppkepcbkaaW.PrintMore Go.Proofs.Ytahppppkepcbkaa.Tm
set_option linter.unusedVariables false
set_option linter.unusedSimpArgs false
theorem dref_l0 (l : List S52) (hm : l.length ≤ 600) (a1 : Int) (b : Bool) : ∀ (d i K : Nat) (acc : List S52), i + d = l.length → d + 1 ≤ K → acc.length ≤ i →
    tattleref03_Due.l0 K l a1 b acc (i : Int) = some (acc ++ (l.drop i).filter (fun x => decide (x.f0 ≤ a1) == b))
  | 0, i, K, acc, hi, hK, ha => by
    obtain ⟨K, rfl⟩ : ∃ m, K = m + 1 := ⟨K - 1, by omega⟩
    rw [tattleref03_Due.l0, if_neg (by omega), List.drop_of_length_le (by omega), List.filter_nil, List.append_nil]
  | d + 1, i, K, acc, hi, hK, ha => by
    obtain ⟨K, rfl⟩ : ∃ m, K = m + 1 := ⟨K - 1, by omega⟩
    have h1 : i < l.length := by omega
    have e1 : rd_T52 l (i : Int) = l[i] := by simp [rd_T52, h1]
    rw [tattleref03_Due.l0, if_pos (by omega), if_pos (by omega), e1, wup i _ h1 hm, List.drop_eq_getElem_cons h1, List.filter_cons]
    cases hp : (decide (l[i].f0 ≤ a1) == b) with
    | true =>
      rw [if_pos rfl, if_pos rfl, if_pos (by omega), dref_l0 l hm a1 b d (i + 1) K _ (by omega) (by omega) (by rw [List.length_append, List.length_singleton]; omega), List.append_assoc]
      rfl
    | false =>
      rw [if_neg Bool.false_ne_true, if_neg Bool.false_ne_true, dref_l0 l hm a1 b d (i + 1) K _ (by omega) (by omega) (by omega)]
theorem dref_eq (K : Nat) (l : List S52) (hm : l.length ≤ 600) (a1 : Int) (b : Bool) (hK : 700 ≤ K) : tattleref03_Due.f K l a1 b = some (l.filter (fun x => decide (x.f0 ≤ a1) == b)) := by
  unfold tattleref03_Due.f
  exact dref_l0 l hm a1 b l.length 0 K [] (by omega) (by omega) (by simp)
theorem rref_l0 (l : List S52) (hm : l.length ≤ 600) (a1 a2 : Int) : ∀ (d i K : Nat) (acc : List S52), i + d = l.length → d + 1 ≤ K → acc.length ≤ i →
    tattleref03_Drop.l0 K l a1 a2 acc (i : Int) = some (acc ++ (l.drop i).filter (fun x => !ofb a1 a2 x))
  | 0, i, K, acc, hi, hK, ha => by
    obtain ⟨K, rfl⟩ : ∃ m, K = m + 1 := ⟨K - 1, by omega⟩
    rw [tattleref03_Drop.l0, if_neg (by omega), List.drop_of_length_le (by omega), List.filter_nil, List.append_nil]
  | d + 1, i, K, acc, hi, hK, ha => by
    obtain ⟨K, rfl⟩ : ∃ m, K = m + 1 := ⟨K - 1, by omega⟩
    have h1 : i < l.length := by omega
    have e1 : rd_T52 l (i : Int) = l[i] := by simp [rd_T52, h1]
    rw [tattleref03_Drop.l0, if_pos (by omega), if_pos (by omega), e1, wup i _ h1 hm, List.drop_eq_getElem_cons h1, List.filter_cons]
    unfold ofb
    by_cases q1 : l[i].f1 = a1
    · by_cases q2 : l[i].f2 = a2
      · rw [if_pos q1, if_pos q2, if_neg (by simp [q1, q2]), rref_l0 l hm a1 a2 d (i + 1) K _ (by omega) (by omega) (by omega)]
        rfl
      · rw [if_pos q1, if_neg q2, if_pos (by omega), if_pos (by simp [q2]), rref_l0 l hm a1 a2 d (i + 1) K _ (by omega) (by omega) (by rw [List.length_append, List.length_singleton]; omega), List.append_assoc]
        rfl
    · rw [if_neg q1, if_pos (by omega), if_pos (by simp [q1]), rref_l0 l hm a1 a2 d (i + 1) K _ (by omega) (by omega) (by rw [List.length_append, List.length_singleton]; omega), List.append_assoc]
      rfl
theorem rref_eq (K : Nat) (l : List S52) (hm : l.length ≤ 600) (a1 a2 : Int) (hK : 700 ≤ K) : tattleref03_Drop.f K l a1 a2 = some (l.filter (fun x => !ofb a1 a2 x)) := by
  unfold tattleref03_Drop.f
  exact rref_l0 l hm a1 a2 l.length 0 K [] (by omega) (by omega) (by simp)
theorem duek_eq (l : List S52) (now : Int) : timer_Due.f l now = some (if okl l = true then (l.filter (fun x => decide (x.f0 ≤ now)), l.filter (fun x => !decide (x.f0 ≤ now)), 0) else ([], [], 1)) := rfl
end Go.Proofs.Ytahppppkepcbkaa.Fn
