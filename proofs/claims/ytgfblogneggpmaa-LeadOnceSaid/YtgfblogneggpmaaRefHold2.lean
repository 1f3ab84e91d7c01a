/- The document's hold is the term's guard. -/
import Derived.Test.YtgfblogneggpmaaFnx2
import Derived.Test.YtgfblogneggpmaaFnx3
import Derived.Test.YtgfblogneggpmaaRefHold
namespace Go.Proofs.Ytgfblogneggpmaa.Vote
open Go.RowKit Go.Proofs.Ytgfblogneggpmaa.Fn Go.Proofs.YtgfblogneggpmaaW.PrintWords Go.Proofs.YtgfblogneggpmaaW.PrintMore

theorem fits_eq {g t d r : Int} {M : Nat} (hM : g - 1 = (M : Int)) (h1 : g ≤ 1000000) (hd : 0 ≤ d ∧ d ≤ 1099511627776) (hr : 1 ≤ r) : tattleref04_Fits.f g t d r = some (!many t d r M) := by
  have hq0 : 0 ≤ (g - 1) / r := Int.ediv_nonneg (by omega) (by omega)
  have hq1 : (g - 1) / r ≤ g - 1 := Int.ediv_le_self _ (by omega)
  have e3 : Int.tdiv (g - 1) r = (g - 1) / r := Int.tdiv_eq_ediv_of_nonneg (by omega)
  have hg : ¬g = 0 := by omega
  have hr0 : ¬r = 0 := by omega
  unfold tattleref04_Fits.f many
  rw [if_neg hg, if_neg hr0, ← hM]
  generalize hq : (g - 1) / r = q at hq0 hq1 e3
  clear hq
  have b1 : -9223372036854775808 ≤ g - 1 ∧ g - 1 ≤ 9223372036854775807 := by omega
  have b2 : -9223372036854775808 ≤ g - 1 + d ∧ g - 1 + d ≤ 9223372036854775807 := by omega
  have b4 : -9223372036854775808 ≤ q ∧ q ≤ 9223372036854775807 := by omega
  have b5 : -9223372036854775808 ≤ g - 1 + d + q ∧ g - 1 + d + q ≤ 9223372036854775807 := by omega
  rw [w64_id _ b1.1 b1.2, w64_id _ b2.1 b2.2, e3, w64_id _ b4.1 b4.2, w64_id _ b5.1 b5.2]
  congr 1
  rw [Bool.eq_iff_iff, Bool.not_eq_true', decide_eq_true_eq, decide_eq_false_iff_not]
  omega
theorem ref_l0e (t d r : Int) (ht : 0 ≤ t ∧ t ≤ 1000000) (hd : 0 ≤ d ∧ d ≤ 1099511627776) (hr : 1 ≤ r) : ∀ (n lo hi : Nat), hi - lo ≤ n → lo ≤ hold t d r → hold t d r ≤ hi → (hi : Int) ≤ t →
    tattleref17_Hold.l0 (n + 1) (lo : Int) (hi : Int) t d r = some ((hold t d r : Nat) : Int)
  | 0, lo, hi, hn, hl, hh, hg => by
    rw [tattleref17_Hold.l0, if_neg (by omega)]
    congr 1
    omega
  | n + 1, lo, hi, hn, hl, hh, hg => by
    rw [tattleref17_Hold.l0]
    by_cases h : (lo : Int) < (hi : Int)
    · have c1 : hi - (lo + hi + 1) / 2 ≤ n := by omega
      have c2 : (lo + hi + 1) / 2 ≤ hi := by omega
      have c3 : (lo + hi + 1) / 2 - 1 - lo ≤ n := by omega
      have c4 : lo ≤ (lo + hi + 1) / 2 - 1 := by omega
      have c5 : (((lo + hi + 1) / 2 - 1 : Nat) : Int) ≤ t := by omega
      have c7 : (((lo + hi + 1) / 2 : Nat) : Int) ≤ 1000000 := by omega
      have m3 : ((lo : Int) + (hi : Int) + 1) / 2 = (((lo + hi + 1) / 2 : Nat) : Int) := by omega
      have m5 : (((lo + hi + 1) / 2 : Nat) : Int) - 1 = (((lo + hi + 1) / 2 - 1 : Nat) : Int) := by omega
      have b1 : -9223372036854775808 ≤ (lo : Int) + (hi : Int) ∧ (lo : Int) + (hi : Int) ≤ 9223372036854775807 := by omega
      have b2 : -9223372036854775808 ≤ (lo : Int) + (hi : Int) + 1 ∧ (lo : Int) + (hi : Int) + 1 ≤ 9223372036854775807 := by omega
      have b3 : 0 ≤ (lo : Int) + (hi : Int) + 1 := by omega
      have hb := fits_eq (t := t) (d := d) (r := r) m5 c7 hd hr
      have up := fun h2 : many t d r ((lo + hi + 1) / 2 - 1) = true => Nat.not_lt.1 fun q => by rw [hold_false q] at h2; cases h2
      have dn := fun h2 : many t d r ((lo + hi + 1) / 2 - 1) = false => Nat.not_le.1 fun q => by rw [many_up t d r hr q (hold_true ht.1 hd.1 hr)] at h2; cases h2
      generalize hM : (lo + hi + 1) / 2 = M at *
      have b4 : -9223372036854775808 ≤ (M : Int) ∧ (M : Int) ≤ 9223372036854775807 := by clear hb m3; omega
      have b5 : -9223372036854775808 ≤ (M : Int) - 1 ∧ (M : Int) - 1 ≤ 9223372036854775807 := by clear hb m3; omega
      rw [if_pos h, w64_id _ b1.1 b1.2, w64_id _ b2.1 b2.2, Int.tdiv_eq_ediv_of_nonneg b3, m3, w64_id _ b4.1 b4.2, w64_id _ b5.1 b5.2, m5, hb, Option.bind_some]
      cases hm : many t d r (M - 1) with
      | false =>
        have := dn hm
        rw [if_pos (show (!false) = true from rfl)]
        exact ref_l0e t d r ht hd hr n _ hi c1 (by omega) hh hg
      | true =>
        have := up hm
        rw [if_neg (by decide)]
        exact ref_l0e t d r ht hd hr n lo _ c3 hl this c5
    · rw [if_neg h]
      congr 1
      omega
theorem rhold_eq (K : Nat) (hK : 1000000 ≤ K) (t d r : Int) : tattleref17_Hold.f (K + 2) t d r = some (if mayt t d r then ((hold t d r : Nat) : Int) else 0) := by
  unfold tattleref17_Hold.f
  by_cases h1 : t < 1
  · rw [if_pos h1, tattleref17_Hold.j0, if_pos rfl, if_neg (c := mayt t d r) (fun h => by have := h.1; omega)]
  · by_cases h2 : t > 1000000
    · rw [if_neg h1, if_pos h2, tattleref17_Hold.j0, if_pos rfl, if_neg (c := mayt t d r) (fun h => by have := h.2.1; omega)]
    · rw [if_neg h1, if_neg h2, bound_eq, Option.bind_some]
      by_cases hb : 0 ≤ d ∧ d ≤ 1099511627776 ∧ 1 ≤ r ∧ r ≤ 1099511627776
      · rw [decide_eq_true hb, tattleref17_Hold.j0, if_neg (by decide)]
        obtain ⟨T, rfl⟩ := Int.eq_ofNat_of_zero_le (show 0 ≤ t by omega)
        have hle := hold_le (t := (T : Int)) (d := d) (r := r) (by omega) hb.1 hb.2.2.1
        have hg := ref_l0e (T : Int) d r ⟨by omega, by omega⟩ ⟨hb.1, hb.2.1⟩ hb.2.2.1 K 0 T (by omega) (by omega) (by omega) (by omega)
        rw [show ((0 : Nat) : Int) = 0 from rfl] at hg
        rw [hg]
        congr 1
        by_cases hm : mayt (T : Int) d r
        · rw [if_pos hm]
        · rw [if_neg hm]
          have : ¬1 ≤ hold (T : Int) d r := fun q => hm ⟨by omega, by omega, hb.1, hb.2.1, hb.2.2.1, hb.2.2.2, q⟩
          omega
      · rw [decide_eq_false hb, tattleref17_Hold.j0, if_pos (by decide), if_neg (c := mayt t d r) (fun h => hb ⟨h.2.2.1, h.2.2.2.1, h.2.2.2.2.1, h.2.2.2.2.2.1⟩)]
end Go.Proofs.Ytgfblogneggpmaa.Vote
