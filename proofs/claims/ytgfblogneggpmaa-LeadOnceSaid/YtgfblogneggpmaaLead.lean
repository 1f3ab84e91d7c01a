/- What leads come to: numbers and lists alone. -/
import Derived.Test.YtgfblogneggpmaaFnx15
import Derived.Test.YtgfblogneggpmaaFnx16
import Derived.Test.YtgfblogneggpmaaFnx17
import Derived.Test.YtgfblogneggpmaaFnx32
import Derived.Test.YtgfblogneggpmaaRefHold2
import Derived.Test.YtgfblogneggpmaaExUntil
import Derived.Test.YtgfblogneggpmaaExNew
namespace Go.Proofs.Ytgfblogneggpmaa.Vote
open Go.RowKit Go.Proofs.Ytgfblogneggpmaa.Fn Go.Proofs.YtgfblogneggpmaaW.PrintWords Go.Proofs.YtgfblogneggpmaaW.PrintMore Go.Proofs.Ytgfblogneggpmaa.Thr

theorem leadok_len {l : List Int} (h : leadok l = true) : 1 ≤ l.length ∧ l.length ≤ 64 := by
  unfold leadok at h
  rw [Bool.and_eq_true, Bool.and_eq_true, decide_eq_true_eq, decide_eq_true_eq] at h
  exact ⟨h.1, h.2.1⟩
theorem odd_iff (x : Int) : odd x = false ↔ -1 ≤ x ∧ x ≤ 1099511627776 := by
  unfold odd
  by_cases h1 : x = -1
  · subst h1
    simp
  · by_cases h2 : 0 ≤ x
    · by_cases h3 : x ≤ 1099511627776 <;> simp [h1, h2, h3] <;> omega
    · simp [h1, h2]
      omega
theorem leadok_mem {l : List Int} (h : leadok l = true) {x : Int} (hx : x ∈ l) : -1 ≤ x ∧ x ≤ 1099511627776 := by
  unfold leadok at h
  rw [Bool.and_eq_true, Bool.and_eq_true, Bool.not_eq_true', List.any_eq_false] at h
  have := h.2.2 x hx
  rw [← odd_iff]
  simpa using this
theorem leadok_of {l : List Int} (h1 : 1 ≤ l.length) (h2 : l.length ≤ 64) (h : ∀ x ∈ l, -1 ≤ x ∧ x ≤ 1099511627776) : leadok l = true := by
  unfold leadok
  rw [decide_eq_true h1, decide_eq_true h2, Bool.true_and, Bool.true_and, Bool.not_eq_true', List.any_eq_false]
  intro x hx
  rw [(odd_iff x).2 (h x hx)]
  decide
/-- A majority of n. -/
def maj (n : Nat) : Nat := n / 2 + 1
theorem thr_mem {l : List Int} {m : Nat} (h1 : 1 ≤ m) (h2 : m ≤ l.length) : thr l m ∈ l := by
  unfold thr
  rw [← (ord_perm l).mem_iff]
  have hl := ord_length l
  have : l.length - m < (ord l).length := by omega
  simp [this]
theorem thr_rng {l : List Int} (h : leadok l = true) : -1 ≤ thr l (maj l.length) ∧ thr l (maj l.length) ≤ 1099511627776 := by
  have hl := leadok_len h
  exact leadok_mem h (thr_mem (by unfold maj; omega) (by unfold maj; omega))
/-- Until when a lead holds. -/
theorem until_eq (t d r e : Int) (l : List Int) : lead_Until.f t d r e l = some (if mayt t d r ∧ leadok l = true then (if thr l (maj l.length) < 0 then (0, false, 0) else (thr l (maj l.length) + ((hold t d r : Nat) : Int), true, 0)) else (0, false, 1)) := by
  unfold lead_Until.f
  rw [hold_eq, Option.bind_some]
  by_cases hm : mayt t d r
  · rw [if_pos hm]
    simp only [true_and]
    cases hk : leadok l with
    | false =>
      rw [if_neg (c := (false : Bool) = true) (by decide), if_neg (c := mayt t d r ∧ (false : Bool) = true) (fun q => by cases q.2)]
    | true =>
      rw [if_pos (c := (true : Bool) = true) rfl, if_pos (c := mayt t d r ∧ (true : Bool) = true) ⟨hm, rfl⟩]
      have hr := thr_rng hk
      have hh := hold_le (t := t) (d := d) (r := r) (by have := hm.1; omega) hm.2.2.1 hm.2.2.2.2.1
      have ht := hm.2.1
      unfold maj at *
      by_cases hn : thr l (l.length / 2 + 1) < 0
      · rw [if_pos hn, if_pos hn]
      · rw [if_neg hn, if_neg hn, w64_id _ (by omega) (by omega)]
  · rw [if_neg hm, if_neg (c := (1 : Int) = 0 ∧ leadok l = true) (fun q => by cases q.1), if_neg (c := mayt t d r ∧ leadok l = true) (fun q => hm q.1)]
theorem lmoment_eq (a : Int) : lead_moment.f a = some (decide (0 ≤ a ∧ a ≤ 1099511627776)) := by
  unfold lead_moment.f
  by_cases h : a ≥ 0
  · rw [if_pos h]
    congr 1
    rw [decide_eq_decide]
    omega
  · rw [if_neg h, decide_eq_false (by omega)]
/-- One grant more. -/
def gra (l : List Int) (v : Nat) (a : Int) : List Int := l.set v (max (l.getD v 0) a)
theorem gra_length (l : List Int) (v : Nat) (a : Int) : (gra l v a).length = l.length := by simp [gra]
theorem gra_get (l : List Int) (v : Nat) (a : Int) (i : Nat) (hv : v < l.length) : (gra l v a).getD i 0 = if i = v then max (l.getD v 0) a else l.getD i 0 := by
  unfold gra
  by_cases h : i = v
  · subst h
    rw [if_pos rfl]
    simp [hv]
  · rw [if_neg h, List.getD_eq_getElem?_getD, List.getElem?_set_ne (fun e => h e.symm), ← List.getD_eq_getElem?_getD]
theorem gra_ok {l : List Int} {v : Nat} {a : Int} (h : leadok l = true) (hv : v < l.length) (ha : 0 ≤ a ∧ a ≤ 1099511627776) : leadok (gra l v a) = true := by
  have hl := leadok_len h
  refine leadok_of (by rw [gra_length]; omega) (by rw [gra_length]; omega) (fun x hx => ?_)
  unfold gra at hx
  rcases List.mem_or_eq_of_mem_set hx with hx | rfl
  · exact leadok_mem h hx
  · have : l.getD v 0 ∈ l := by simp [hv]
    have := leadok_mem h this
    omega
theorem mx_eq (a b : Int) : mx a b = max a b := by
  unfold mx
  split <;> omega
theorem granted_eq (k : Nat) (hk : 1 ≤ k) (e : Int) (l : List Int) (v ep a : Int) : lead_Granted.f k e l v ep a = some (if leadok l = true ∧ 0 ≤ v ∧ v < (l.length : Int) ∧ 0 ≤ a ∧ a ≤ 1099511627776 then (if ep = e then (e, gra l v.toNat a, 0) else (e, l, 8)) else (e, l, 1)) := by
  obtain ⟨k, rfl⟩ : ∃ m, k = m + 1 := ⟨k - 1, by omega⟩
  have hbad : lead_Granted.j0 (k + 1) v ep a true e l = some (e, l, 1) := by rw [lead_Granted.j0, if_pos rfl]
  unfold lead_Granted.f lead_Check.f
  rw [Option.bind_some]
  cases hl : leadok l with
  | false => rw [if_neg (by decide), hbad, if_neg (fun q => by cases q.1)]
  | true =>
    rw [if_pos rfl, if_pos rfl]
    have hlen := leadok_len hl
    by_cases h1 : v < 0
    · rw [if_pos h1, hbad, if_neg (fun q => by omega)]
    rw [if_neg h1]
    by_cases h2 : v ≥ (l.length : Int)
    · rw [if_pos h2, hbad, if_neg (fun q => by omega)]
    rw [if_neg h2, lmoment_eq, Option.bind_some]
    by_cases h3 : 0 ≤ a ∧ a ≤ 1099511627776
    · rw [decide_eq_true h3, lead_Granted.j0, if_neg (by decide), if_pos (c := (true : Bool) = true ∧ 0 ≤ v ∧ v < (l.length : Int) ∧ 0 ≤ a ∧ a ≤ 1099511627776) ⟨rfl, by omega, by omega, h3⟩]
      by_cases h4 : ep = e
      · have hcl : slices_Clone_int64_int64.f l = some l := by simp [slices_Clone_int64_int64.f]; omega
        rw [if_pos h4, if_pos h4, hcl, Option.bind_some, if_pos (by omega), if_pos (by omega), mx_eq]
        rfl
      · rw [if_neg h4, if_neg h4]
    · rw [decide_eq_false h3, if_neg (fun q => h3 ⟨q.2.2.2.1, q.2.2.2.2⟩)]
      exact hbad
theorem lmaj_eq (n : Nat) (h1 : 1 ≤ n) (h2 : n ≤ 64) : lead_Majority.f (n : Int) = some ((maj n : Nat) : Int) := maj_eq n h1 h2
theorem lnew_eq (n : Nat) (h1 : 1 ≤ n) (h2 : n ≤ 64) : lead_New.f (n : Int) = some (0, List.replicate n (-1), 0) := by
  unfold lead_New.f
  rw [if_pos (by omega), Int.toNat_natCast]
theorem few18_eq (e : Int) (l : List Int) : ∃ l', tattlelaw18_Few.f e l = some (e, l') ∧ l'.length ≤ 65 := by
  unfold tattlelaw18_Few.f
  by_cases h : (l.length : Int) > 65
  · rw [if_pos h, if_pos (by omega)]
    exact ⟨_, rfl, by rw [List.length_take]; omega⟩
  · rw [if_neg h]
    exact ⟨_, rfl, by omega⟩
/-- The first k of n have granted at once. -/
def firsts (n k : Nat) (a : Int) : List Int := List.replicate k a ++ List.replicate (n - k) (-1)
theorem firsts_length {n k : Nat} (a : Int) (h : k ≤ n) : (firsts n k a).length = n := by simp [firsts]; omega
theorem firsts_zero (n : Nat) (a : Int) : firsts n 0 a = List.replicate n (-1) := by simp [firsts]
theorem firsts_gra {n k : Nat} {a : Int} (h : k < n) (ha : 0 ≤ a) : gra (firsts n k a) k a = firsts n (k + 1) a := by
  have hg : (firsts n k a).getD k 0 = -1 := by
    unfold firsts
    rw [List.getD_eq_getElem?_getD, List.getElem?_append_right (by simp), List.length_replicate, Nat.sub_self, List.getElem?_replicate, if_pos (by omega)]
    rfl
  unfold gra
  rw [hg, show max (-1) a = a by omega]
  unfold firsts
  rw [List.set_append_right _ _ (by simp), List.length_replicate, Nat.sub_self, show n - k = (n - (k + 1)) + 1 by omega, List.replicate_succ, List.set_cons_zero, List.replicate_succ', List.append_assoc]
  rfl
theorem firsts_ok {n k : Nat} {a : Int} (h1 : 1 ≤ n) (h2 : n ≤ 64) (h : k ≤ n) (ha : 0 ≤ a ∧ a ≤ 1099511627776) : leadok (firsts n k a) = true := by
  refine leadok_of (by rw [firsts_length a h]; omega) (by rw [firsts_length a h]; omega) (fun x hx => ?_)
  unfold firsts at hx
  rcases List.mem_append.1 hx with hx | hx
  · rw [List.eq_of_mem_replicate hx]
    omega
  · rw [List.eq_of_mem_replicate hx]
    omega
theorem firsts_count (n k : Nat) (a v : Int) : (firsts n k a).countP (fun x => decide (v ≤ x)) = (if v ≤ a then k else 0) + (if v ≤ -1 then n - k else 0) := by
  unfold firsts
  rw [List.countP_append, List.countP_replicate, List.countP_replicate]
  simp only [decide_eq_true_eq]
theorem firsts_thr {n k : Nat} {a : Int} (h1 : 1 ≤ n) (h : k ≤ n) (ha : 0 ≤ a) : if maj n ≤ k then thr (firsts n k a) (maj n) = a else thr (firsts n k a) (maj n) < 0 := by
  have hl := firsts_length a h
  have hm1 : 1 ≤ maj n := by unfold maj; omega
  have hm2 : maj n ≤ (firsts n k a).length := by rw [hl]; unfold maj; omega
  by_cases hk : maj n ≤ k
  · rw [if_pos hk]
    refine thr_is _ _ hm1 hm2 a ?_ (fun u hu => ?_)
    · rw [firsts_count, if_pos (Int.le_refl _), if_neg (by omega)]
      omega
    · rw [firsts_count] at hu
      by_cases hua : u ≤ a
      · exact hua
      · rw [if_neg hua, if_neg (by omega)] at hu
        omega
  · rw [if_neg hk]
    have := thr_many (firsts n k a) (maj n) hm1 hm2
    rw [firsts_count] at this
    refine Int.not_le.1 fun hge => ?_
    split at this <;> split at this <;> omega
theorem same18_l0 (a b : List Int) (e1 e2 : Int) (hab : a.length = b.length) (hm : a.length ≤ 1000000) : ∀ (d i k : Nat), i + d = a.length → d + 1 ≤ k → tattleref18_Same.l0 k (i : Int) e1 a e2 b = some (decide (a.drop i = b.drop i))
  | 0, i, k, hi, hk => by
    obtain ⟨k, rfl⟩ : ∃ m, k = m + 1 := ⟨k - 1, by omega⟩
    rw [tattleref18_Same.l0, if_neg (by omega), List.drop_of_length_le (by omega), List.drop_of_length_le (by omega)]
    rfl
  | d + 1, i, k, hi, hk => by
    obtain ⟨k, rfl⟩ : ∃ m, k = m + 1 := ⟨k - 1, by omega⟩
    have ih := same18_l0 a b e1 e2 hab hm d (i + 1) k (by omega) (by omega)
    have y : -9223372036854775808 ≤ (i : Int) + 1 ∧ (i : Int) + 1 ≤ 9223372036854775807 := by omega
    have ha : i < a.length := by omega
    have hb : i < b.length := by omega
    have r1 : rd a (i : Int) = a[i] := by show a.getD ((i : Int)).toNat 0 = a[i]; simp [ha]
    have r2 : rd b (i : Int) = b[i] := by show b.getD ((i : Int)).toNat 0 = b[i]; simp [hb]
    rw [tattleref18_Same.l0, if_pos (by omega), if_pos (by omega), if_pos (by omega), w64_id _ y.1 y.2, r1, r2, List.drop_eq_getElem_cons ha, List.drop_eq_getElem_cons hb]
    by_cases h : a[i] = b[i]
    · rw [if_pos h, show ((i : Int) + 1) = ((i + 1 : Nat) : Int) by omega, ih, h]
      congr 1
      rw [decide_eq_decide, List.cons.injEq]
      exact ⟨fun q => ⟨rfl, q⟩, fun q => q.2⟩
    · rw [if_neg h]
      congr 1
      symm
      rw [decide_eq_false_iff_not, List.cons.injEq]
      exact fun q => h q.1
theorem same18_refl (k : Nat) (e : Int) (a : List Int) (hm : a.length ≤ 1000000) (hk : a.length + 2 ≤ k) : tattleref18_Same.f k e a e a = some true := by
  obtain ⟨k, rfl⟩ : ∃ m, k = m + 1 := ⟨k - 1, by omega⟩
  unfold tattleref18_Same.f
  have := same18_l0 a a e e rfl hm a.length 0 k (by omega) (by omega)
  rw [show ((0 : Nat) : Int) = 0 from rfl, decide_eq_true rfl] at this
  rw [if_pos rfl, tattleref18_Same.j0, if_neg (by simp), this]
end Go.Proofs.Ytgfblogneggpmaa.Vote
