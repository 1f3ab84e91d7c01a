/- What a vote's grants come to, the document's hold. -/
import Derived.Test.YtgfblogneggpmaaFnx2
import Derived.Test.YtgfblogneggpmaaFnx3
import Derived.Test.YtgfblogneggpmaaVote
namespace Go.Proofs.Ytgfblogneggpmaa.Vote
open Go.RowKit Go.Proofs.Ytgfblogneggpmaa.Fn Go.Proofs.YtgfblogneggpmaaW.PrintWords Go.Proofs.YtgfblogneggpmaaW.PrintMore

theorem bound_eq (d r : Int) : tattleref04_Bound.f d r = some (decide (0 ≤ d ∧ d ≤ 1099511627776 ∧ 1 ≤ r ∧ r ≤ 1099511627776)) := by
  unfold tattleref04_Bound.f
  by_cases h1 : 0 ≤ d <;> by_cases h2 : d ≤ 1099511627776 <;> by_cases h3 : 1 ≤ r <;> simp [h1, h2, h3]
theorem fits_d {g t d r : Int} (h0 : 1 ≤ g) (h1 : g ≤ 1000000) (hd : 0 ≤ d ∧ d ≤ 1099511627776) (hr : 1 ≤ r) : ∃ b, tattleref04_Fits.f g t d r = some b ∧ (b = true → d < t) := by
  have hq0 : 0 ≤ (g - 1) / r := Int.ediv_nonneg (by omega) (by omega)
  have hq1 : (g - 1) / r ≤ g - 1 := Int.ediv_le_self _ (by omega)
  have e3 : Int.tdiv (g - 1) r = (g - 1) / r := Int.tdiv_eq_ediv_of_nonneg (by omega)
  have hg : ¬g = 0 := by omega
  have hr0 : ¬r = 0 := by omega
  unfold tattleref04_Fits.f
  rw [if_neg hg, if_neg hr0]
  generalize hq : (g - 1) / r = q at hq0 hq1 e3
  clear hq
  have b1 : -9223372036854775808 ≤ g - 1 ∧ g - 1 ≤ 9223372036854775807 := by omega
  have b2 : -9223372036854775808 ≤ g - 1 + d ∧ g - 1 + d ≤ 9223372036854775807 := by omega
  have b4 : -9223372036854775808 ≤ q ∧ q ≤ 9223372036854775807 := by omega
  have b5 : -9223372036854775808 ≤ g - 1 + d + q ∧ g - 1 + d + q ≤ 9223372036854775807 := by omega
  rw [w64_id _ b1.1 b1.2, w64_id _ b2.1 b2.2, e3, w64_id _ b4.1 b4.2, w64_id _ b5.1 b5.2]
  refine ⟨_, rfl, fun h => ?_⟩
  rw [decide_eq_true_eq] at h
  clear e3
  omega
theorem ref_l0 (t d r : Int) (ht : t ≤ 1000000) (hd : 0 ≤ d ∧ d ≤ 1099511627776) (hr : 1 ≤ r) : ∀ (n lo hi : Nat), hi - lo ≤ n → lo ≤ hi → (hi : Int) ≤ t → (lo = 0 ∨ d < t) →
    ∃ g, tattleref17_Hold.l0 (n + 1) (lo : Int) (hi : Int) t d r = some g ∧ (g = 0 ∨ d < t)
  | 0, lo, hi, hn, hl, hh, hg => by
    rw [tattleref17_Hold.l0, if_neg (by omega)]
    refine ⟨_, rfl, ?_⟩
    rcases hg with hg | hg
    · exact .inl (by omega)
    · exact .inr hg
  | n + 1, lo, hi, hn, hl, hh, hg => by
    rw [tattleref17_Hold.l0]
    by_cases h : (lo : Int) < (hi : Int)
    · have c1 : hi - (lo + hi + 1) / 2 ≤ n := by omega
      have c2 : (lo + hi + 1) / 2 ≤ hi := by omega
      have c3 : (lo + hi + 1) / 2 - 1 - lo ≤ n := by omega
      have c4 : lo ≤ (lo + hi + 1) / 2 - 1 := by omega
      have c5 : (((lo + hi + 1) / 2 - 1 : Nat) : Int) ≤ t := by omega
      have c6 : (1 : Int) ≤ (((lo + hi + 1) / 2 : Nat) : Int) := by omega
      have c7 : (((lo + hi + 1) / 2 : Nat) : Int) ≤ 1000000 := by omega
      have m3 : ((lo : Int) + (hi : Int) + 1) / 2 = (((lo + hi + 1) / 2 : Nat) : Int) := by omega
      have m5 : (((lo + hi + 1) / 2 : Nat) : Int) - 1 = (((lo + hi + 1) / 2 - 1 : Nat) : Int) := by omega
      have b1 : -9223372036854775808 ≤ (lo : Int) + (hi : Int) ∧ (lo : Int) + (hi : Int) ≤ 9223372036854775807 := by omega
      have b2 : -9223372036854775808 ≤ (lo : Int) + (hi : Int) + 1 ∧ (lo : Int) + (hi : Int) + 1 ≤ 9223372036854775807 := by omega
      have b3 : 0 ≤ (lo : Int) + (hi : Int) + 1 := by omega
      obtain ⟨b, hb, hbt⟩ := fits_d (g := (((lo + hi + 1) / 2 : Nat) : Int)) (t := t) (d := d) (r := r) c6 c7 hd hr
      generalize hM : (lo + hi + 1) / 2 = M at *
      have b4 : -9223372036854775808 ≤ (M : Int) ∧ (M : Int) ≤ 9223372036854775807 := by clear hb m3; omega
      have b5 : -9223372036854775808 ≤ (M : Int) - 1 ∧ (M : Int) - 1 ≤ 9223372036854775807 := by clear hb m3; omega
      rw [if_pos h, w64_id _ b1.1 b1.2, w64_id _ b2.1 b2.2, Int.tdiv_eq_ediv_of_nonneg b3, m3, w64_id _ b4.1 b4.2, w64_id _ b5.1 b5.2, m5, hb, Option.bind_some]
      cases b with
      | true =>
        rw [if_pos rfl]
        exact ref_l0 t d r ht hd hr n _ hi c1 c2 hh (.inr (hbt rfl))
      | false =>
        rw [if_neg (by decide)]
        exact ref_l0 t d r ht hd hr n lo _ c3 c4 c5 hg
    · rw [if_neg h]
      refine ⟨_, rfl, ?_⟩
      rcases hg with hg | hg
      · exact .inl (by omega)
      · exact .inr hg
theorem ref_hold (K : Nat) (hK : 1000000 ≤ K) (t d r : Int) : ∃ g, tattleref17_Hold.f (K + 2) t d r = some g ∧ (g = 0 ∨ mayt t d r) := by
  unfold tattleref17_Hold.f
  by_cases h1 : t < 1
  · rw [if_pos h1, tattleref17_Hold.j0, if_pos rfl]
    exact ⟨_, rfl, .inl rfl⟩
  · by_cases h2 : t > 1000000
    · rw [if_neg h1, if_pos h2, tattleref17_Hold.j0, if_pos rfl]
      exact ⟨_, rfl, .inl rfl⟩
    · rw [if_neg h1, if_neg h2, bound_eq, Option.bind_some]
      by_cases hb : 0 ≤ d ∧ d ≤ 1099511627776 ∧ 1 ≤ r ∧ r ≤ 1099511627776
      · rw [decide_eq_true hb, tattleref17_Hold.j0, if_neg (by decide)]
        obtain ⟨T, rfl⟩ := Int.eq_ofNat_of_zero_le (show 0 ≤ t by omega)
        obtain ⟨g, hg, hd⟩ := ref_l0 (T : Int) d r (by omega) ⟨hb.1, hb.2.1⟩ hb.2.2.1 K 0 T (by omega) (by omega) (by omega) (.inl rfl)
        refine ⟨g, hg, ?_⟩
        rcases hd with hd | hd
        · exact .inl hd
        · refine .inr ⟨by omega, by omega, hb.1, hb.2.1, hb.2.2.1, hb.2.2.2, ?_⟩
          have ht := hold_true (t := (T : Int)) (d := d) (r := r) (by omega) hb.1 hb.2.2.1
          by_cases h0 : hold (T : Int) d r = 0
          · rw [h0] at ht
            unfold many at ht
            rw [decide_eq_true_eq] at ht
            simp at ht
            omega
          · omega
      · rw [decide_eq_false hb, tattleref17_Hold.j0, if_pos (by decide)]
        exact ⟨_, rfl, .inl rfl⟩

end Go.Proofs.Ytgfblogneggpmaa.Vote
