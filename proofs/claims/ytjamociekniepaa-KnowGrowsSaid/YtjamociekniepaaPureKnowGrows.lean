/- KnowGrows, over lists alone: the printed function answers true at every input. -/
import Derived.Test.YtjamociekniepaaFnx0
import Derived.Test.YtjamociekniepaaFnx10
import Derived.Test.YtjamociekniepaaFnx2
import Derived.Test.YtjamociekniepaaFnx4
import Derived.Test.YtjamociekniepaaSayKnowGrows
import Derived.Test.YtjamociekniepaaKnow2
namespace Go.Proofs.Ytjamociekniepaa.Pure
open Go.RowKit Go.Proofs.Ytjamociekniepaa.Fn Go.Proofs.YtjamociekniepaaW.PrintWords Go.Proofs.YtjamociekniepaaW.PrintMore Go.Proofs.Ytjamociekniepaa.Know

section
variable {t : List S26} (hm : t.length ≤ 20) (hmay : ∀ a ∈ t, may a = true) (h0 : ∀ a ∈ t, 0 ≤ a.f0)
include hm hmay h0

theorem grows_l1 : ∀ (d k : Nat) (now : S26), d ≤ t.length → d + 30 ≤ k → may now = true → 0 ≤ now.f0 → le now (jall t) → (∀ (i : Nat) (h : i < t.length), d ≤ i → le t[i] now) →
    tattlelaw05_KnowGrows.l1 k t 0 ((d : Int) - 1) (jall t).f0 (jall t).f1 now.f0 now.f1 = some true
  | 0, k, now, _, hk, hn, hn0, hle, hall => by
    obtain ⟨k, rfl⟩ : ∃ m, k = m + 1 := ⟨k - 1, by omega⟩
    have e : now = jall t := by
      refine le_antisymm hle (fold_lub t ⟨0, 0⟩ now may_zero hmay (le_zero hn0 hn) fun a ha => ?_)
      obtain ⟨i, hi, rfl⟩ := List.mem_iff_getElem.1 ha
      exact hall i hi (Nat.zero_le _)
    rw [tattlelaw05_KnowGrows.l1, if_neg (by omega), ← e]
    simp [awake_eq]
  | d + 1, k, now, hd, hk, hn, hn0, hle, hall => by
    obtain ⟨k, rfl⟩ : ∃ m, k = m + 1 := ⟨k - 1, by omega⟩
    have hlt : d < t.length := by omega
    have hmem : t[d] ∈ t := List.getElem_mem hlt
    rw [show ((d + 1 : Nat) : Int) - 1 = (d : Int) by omega, tattlelaw05_KnowGrows.l1, if_pos (by omega), if_pos (by omega), if_pos (by omega), rd_at t d hlt]
    have ew : wrap64 ((d : Int) - 1) = (d : Int) - 1 := by unfold wrap64; omega
    have ej := join2 k (hmay _ hmem) hn (h0 _ hmem) (by omega)
    have ej' : know_Join.f k [(⟨t[d].f0, t[d].f1⟩ : S26), (⟨now.f0, now.f1⟩ : S26)] = some ((jn t[d] now).f0, (jn t[d] now).f1, 0) := ej
    rw [ej', Option.bind_some, ew]
    simp only [if_true]
    refine grows_l1 d k (jn t[d] now) (by omega) (by omega) (jn_may hn (hmay _ hmem)) ?_ (jn_lub hn (hmay _ hmem) hle (fold_mem t _ may_zero hmay _ hmem)) fun i hi hdi => ?_
    · rcases jn_cases hn (hmay _ hmem) with ⟨h, _⟩ | ⟨h, _⟩ <;> rw [h]
      · exact h0 _ hmem
      · exact hn0
    · by_cases e : i = d
      · subst e; exact jn_left hn (hmay _ hmem)
      · exact le_trans (hall i hi (by omega)) (jn_right hn (hmay _ hmem))

theorem grows_l0 (hne : 0 < t.length) (l1 : List Int) (hw : ∀ x ∈ l1, (Lit.int .u8 x).wf = true) : ∀ (d i k : Nat) (now : S26), i + d = 60 → 2 * d + 60 ≤ k → may now = true → 0 ≤ now.f0 → le now (jall t) →
    tattlelaw05_KnowGrows.l0 k t l1 0 (i : Int) (jall t).f0 (jall t).f1 now.f0 now.f1 = some true := by
  have hend : ∀ (k i : Nat) (now : S26), 52 ≤ k → may now = true → 0 ≤ now.f0 → le now (jall t) → tattlelaw05_KnowGrows.j2 k t l1 0 (i : Int) false (jall t).f0 (jall t).f1 now.f0 now.f1 = some true := by
    intro k i now hk hn hn0 hle
    obtain ⟨k, rfl⟩ : ∃ m, k = m + 1 := ⟨k - 1, by omega⟩
    have ew : wrap64 ((t.length : Int) - 1) = (t.length : Int) - 1 := by unfold wrap64; omega
    rw [tattlelaw05_KnowGrows.j2, if_neg (by decide), ew]
    exact grows_l1 hm hmay h0 t.length k now (Nat.le_refl _) (by omega) hn hn0 hle (fun i hi hd => absurd hi (by omega))
  intro d
  induction d with
  | zero =>
    intro i k now hi hk hn hn0 hle
    obtain ⟨k, rfl⟩ : ∃ m, k = m + 1 := ⟨k - 1, by omega⟩
    have e : decide ((i : Int) < 60) = false := by simp; omega
    rw [tattlelaw05_KnowGrows.l0, e]
    split <;> exact hend k i now (by omega) hn hn0 hle
  | succ d ih =>
    intro i k now hi hk hn hn0 hle
    obtain ⟨k, rfl⟩ : ∃ m, k = m + 2 := ⟨k - 2, by omega⟩
    have hk3 : 3 ≤ k := by omega
    have hk6 : 6 ≤ k := by omega
    have hi1 : i + 1 + d = 60 := by omega
    have hk2 : 2 * d + 60 ≤ k := by omega
    have hi60 : i < 60 := by omega
    rw [tattlelaw05_KnowGrows.l0]
    by_cases hlt : i < l1.length
    · have e : decide ((i : Int) < 60) = true := by simp; omega
      rw [if_pos (by omega), e, tattlelaw05_KnowGrows.j2, if_pos rfl, if_pos (by omega), if_pos (by omega), if_neg (by omega)]
      have hr : rd l1 (i : Int) = l1[i] := by simp [rd, hlt]
      have hu := u8_wf (hw _ (List.getElem_mem hlt))
      have ew : wrap64 (rd l1 (i : Int)) = l1[i] := by rw [hr]; unfold wrap64; omega
      rw [ew]
      obtain ⟨j, hj, hjl⟩ : ∃ j : Nat, Int.tmod l1[i] (t.length : Int) = (j : Int) ∧ j < t.length := by
        rw [Int.tmod_eq_emod_of_nonneg hu.1]
        have h1 := Int.emod_nonneg l1[i] (show (t.length : Int) ≠ 0 by omega)
        have h2 := Int.emod_lt_of_pos l1[i] (show (0 : Int) < t.length by omega)
        exact ⟨(l1[i] % (t.length : Int)).toNat, by omega, by omega⟩
      rw [hj, if_pos (by omega), if_pos (by omega), rd_at t j hjl]
      have hmem : t[j] ∈ t := List.getElem_mem hjl
      have ej := join2 k hn (hmay _ hmem) hn0 hk6
      have ej' : know_Join.f k [(⟨now.f0, now.f1⟩ : S26), (⟨t[j].f0, t[j].f1⟩ : S26)] = some ((jn now t[j]).f0, (jn now t[j]).f1, 0) := ej
      have hb : bts ⟨now.f0, now.f1⟩ ⟨(jn now t[j]).f0, (jn now t[j]).f1⟩ = false := bts_false hn (jn_may (hmay _ hmem) hn) (jn_left (hmay _ hmem) hn)
      have ei : wrap64 ((i : Int) + 1) = ((i + 1 : Nat) : Int) := w64 i 60 hi60 (by simp [maxLen])
      rw [ej', Option.bind_some]
      simp only [if_true]
      rw [beats_eq k _ _ _ _ hk3, hb, Option.bind_some, if_neg (show ¬ (false = true) by decide), ei]
      refine ih (i + 1) k (jn now t[j]) hi1 hk2 (jn_may (hmay _ hmem) hn) ?_ (jn_lub (hmay _ hmem) hn (fold_mem t _ may_zero hmay _ hmem) hle)
      rcases jn_cases (hmay _ hmem) hn with ⟨h, _⟩ | ⟨h, _⟩ <;> rw [h]
      · exact hn0
      · exact h0 _ hmem
    · rw [if_neg (by omega)]
      exact hend (k + 1) i now (by omega) hn hn0 hle
end

theorem few_take (l : List S26) : tattlelaw05_few.f l = some (l.take 20) := by
  unfold tattlelaw05_few.f
  by_cases h : (l.length : Int) > 20
  · rw [if_pos h, if_pos (by omega)]
  · rw [if_neg h, List.take_of_length_le (by omega)]

theorem KnowGrows : tattlelaw05_KnowGrows.Pure := by
  intro l l1 hl hl1
  refine ⟨400, ?_⟩
  unfold tattlelaw05_KnowGrows.f
  rw [few_take, Option.bind_some]
  have hm : (l.take 20).length ≤ 20 := by rw [List.length_take]; omega
  have ht0 : ∀ a ∈ l.take 20, 0 ≤ a.f0 := fun a ha => (u64_wf (hl.2.2 a (List.mem_of_mem_take ha)).1).1
  generalize l.take 20 = t at hm ht0
  rw [check_eq 400 t (by simp only [maxLen]; omega) (by omega), Option.bind_some]
  by_cases hc : chk t = 0
  · rw [if_pos hc]
    by_cases hn : t.length = 0
    · have e : ((t.length : Int) == 0) = true := by simp [hn]
      rw [e, tattlelaw05_KnowGrows.j0, if_pos rfl]
      simp [awake_eq]
    · have e : ((t.length : Int) == 0) = false := by rw [beq_eq_false_iff_ne]; omega
      rw [e, tattlelaw05_KnowGrows.j0, if_neg (by decide), join_eq _ t (by simp only [maxLen]; omega) (by omega), hc, if_pos rfl, Option.bind_some]
      have h := fun K hK => grows_l0 hm (chk_zero.1 hc) ht0 (by omega) l1 hl1.2.2 60 0 K ⟨0, 0⟩ (by decide) hK may_zero (by decide) (fold_base t _ may_zero (chk_zero.1 hc))
      exact h 399 (by decide)
  · rw [if_neg hc, tattlelaw05_KnowGrows.j0, if_pos rfl]
    simp [awake_eq]
end Go.Proofs.Ytjamociekniepaa.Pure
