/- LeadMore, over numbers and lists alone: the printed function answers true at every input. -/
import Derived.Test.YtgfblogneggpmaaAw24
import Derived.Test.YtgfblogneggpmaaFnx29
import Derived.Test.YtgfblogneggpmaaSayLeadMore
import Derived.Test.YtgfblogneggpmaaLead
namespace Go.Proofs.Ytgfblogneggpmaa.Pure
open Go.RowKit Go.Proofs.Ytgfblogneggpmaa.Fn Go.Proofs.YtgfblogneggpmaaW.PrintWords Go.Proofs.YtgfblogneggpmaaW.PrintMore Go.Proofs.Ytgfblogneggpmaa.Vote Go.Proofs.Ytgfblogneggpmaa.Thr

theorem more_l0 (K : Nat) (hK : 1000100 ≤ K) (t d r e a5 a6 a now : Int) (l0 : List Int) (n k : Nat) (h1 : 1 ≤ n) (h2 : n ≤ 64) (hkn : k ≤ n) (ha : 0 ≤ a ∧ a ≤ 1099511627776) (hm : mayt t d r) :
    ∀ (m i F : Nat), i + m = k → K + m + 1 ≤ F → tattlelaw18_LeadMore.l0 F (n : Int) (k : Int) (i : Int) t d r e l0 a5 a6 a now 0 (firsts n i a) = some true
  | 0, i, F, hi, hF => by
    obtain ⟨F, rfl⟩ : ∃ q, F = q + 1 := ⟨F - 1, by omega⟩
    obtain rfl : i = k := by omega
    have hok := firsts_ok (k := i) (a := a) h1 h2 (by omega) ha
    have hu := until_eq t d r 0 (firsts n i a)
    rw [if_pos ⟨hm, hok⟩, firsts_length a hkn] at hu
    have hth := firsts_thr (n := n) (k := i) (a := a) h1 hkn ha.1
    have hh := hold_le (t := t) (d := d) (r := r) (by have := hm.1; omega) hm.2.2.1 hm.2.2.2.2.1
    have ht := hm.2.1
    obtain ⟨F', rfl⟩ : ∃ q, F = q + 2 := ⟨F - 2, by omega⟩
    have hRH := rhold_eq F' (by omega) t d r
    rw [if_pos hm] at hRH
    have hmj : maj n = n / 2 + 1 := rfl
    generalize hold t d r = h at *
    have e1 : wrap64 (2 * ((maj n : Nat) : Int)) = 2 * ((maj n : Nat) : Int) := w64_id _ (by omega) (by omega)
    have e2 : wrap64 (((maj n : Nat) : Int) - 1) = ((maj n : Nat) : Int) - 1 := w64_id _ (by omega) (by omega)
    have e3 : wrap64 (2 * (((maj n : Nat) : Int) - 1)) = 2 * (((maj n : Nat) : Int) - 1) := w64_id _ (by omega) (by omega)
    have e4 : wrap64 (a + (h : Int)) = a + (h : Int) := w64_id _ (by omega) (by omega)
    have haw : tattlelaw18_awakeT.f = some true := rfl
    rw [tattlelaw18_LeadMore.l0, if_neg (by omega), hu, Option.bind_some, lmaj_eq n h1 h2, Option.bind_some, e1, e2, e3]
    by_cases hk : maj n ≤ i
    · rw [if_pos hk] at hth
      rw [hth, if_neg (show ¬a < 0 by omega)]
      simp only [if_true]
      rw [decide_eq_true (show (i : Int) ≥ ((maj n : Nat) : Int) by omega), if_pos (by decide), hRH, Option.bind_some, e4, if_pos rfl, if_pos (by omega), if_pos (by omega), haw]
      rfl
    · rw [if_neg hk] at hth
      rw [if_pos hth]
      simp only [if_true]
      rw [decide_eq_false (show ¬(i : Int) ≥ ((maj n : Nat) : Int) by omega), if_pos (by decide), if_neg (by decide), if_pos (by omega), if_pos (by omega), haw]
      rfl
  | m + 1, i, F, hi, hF => by
    obtain ⟨F, rfl⟩ : ∃ q, F = q + 1 := ⟨F - 1, by omega⟩
    have hok := firsts_ok (k := i) (a := a) h1 h2 (by omega) ha
    have hlen := firsts_length (n := n) (k := i) a (by omega)
    have ih := more_l0 K hK t d r e a5 a6 a now l0 n k h1 h2 hkn ha hm m (i + 1) F (by omega) (by omega)
    have y : -9223372036854775808 ≤ (i : Int) + 1 ∧ (i : Int) + 1 ≤ 9223372036854775807 := by omega
    rw [tattlelaw18_LeadMore.l0, if_pos (by omega), granted_eq F (by omega), if_pos ⟨hok, by omega, by omega, ha⟩, if_pos rfl, Option.bind_some, Int.toNat_natCast, firsts_gra (by omega) ha.1]
    simp only [if_true]
    rw [w64_id _ y.1 y.2]
    exact ih
theorem more_k (many : Int) (n : Nat) (h : 0 ≤ many ∧ many ≤ 255) (hn : n ≤ 64) : Int.tmod (wrap64 many) (wrap64 ((n : Int) + 1)) = ((many.toNat % (n + 1) : Nat) : Int) ∧ many.toNat % (n + 1) ≤ n ∧ wrap64 ((n : Int) + 1) = (n : Int) + 1 := by
  have e1 : wrap64 ((n : Int) + 1) = (n : Int) + 1 := w64_id _ (by omega) (by omega)
  have e2 : wrap64 many = many := w64_id _ (by omega) (by omega)
  have h3 := Nat.mod_lt many.toNat (show 0 < n + 1 by omega)
  refine ⟨?_, by omega, e1⟩
  rw [e1, e2, Int.tmod_eq_emod_of_nonneg h.1, Int.natCast_emod, Int.toNat_of_nonneg h.1]
  rfl
theorem more_j1 (K : Nat) (hK : 1000200 ≤ K) (t d r e v a6 a now many : Int) (l0 l : List Int) (h1 : 1 ≤ l.length) (h2 : l.length ≤ 64) (ha : 0 ≤ a ∧ a ≤ 1099511627776) (hm : mayt t d r) (hmany : 0 ≤ many ∧ many ≤ 255) :
    tattlelaw18_LeadMore.j1 (K + 100 + 1) many false t d r e l0 v a6 a now e l = some true := by
  obtain ⟨e1, hk, e2⟩ := more_k many l.length hmany h2
  rw [tattlelaw18_LeadMore.j1, if_neg (by decide), lnew_eq _ h1 h2, Option.bind_some]
  simp only [if_true]
  rw [if_neg (by rw [e2]; omega), e1, ← firsts_zero l.length a]
  clear e1 e2
  generalize many.toNat % (l.length + 1) = k at *
  exact more_l0 K (by omega) t d r e v a6 a now l0 l.length k h1 h2 hk ha hm k 0 (K + 100) (Nat.zero_add _) (by omega)
theorem LeadMore : tattlelaw18_LeadMore.Pure := by
  intro t d r e l0 v a6 a now many _ _ _ _ _ _ _ _ _ hmany
  have hmany := u8_wf hmany
  obtain ⟨l, hl, hll⟩ := few18_eq e l0
  obtain ⟨K, hK⟩ : ∃ K, 1000200 ≤ K := ⟨1000200, Nat.le_refl _⟩
  refine ⟨K + 100 + 2, ?_⟩
  unfold tattlelaw18_LeadMore.f
  rw [hl, Option.bind_some]
  simp only
  have hbad : ∀ x y z1 z2, tattlelaw18_LeadMore.j0 (K + 100 + 2) many x y true t d r e l0 v a6 a now e l z1 z2 = some true := by
    intro x y z1 z2
    rw [tattlelaw18_LeadMore.j0, if_pos rfl]
    rfl
  have hu := until_eq t d r e l
  rw [granted_eq _ (by omega), Option.bind_some, hu, Option.bind_some]
  by_cases hg : leadok l = true ∧ 0 ≤ v ∧ v < (l.length : Int) ∧ 0 ≤ a ∧ a ≤ 1099511627776
  · rw [if_pos hg, if_pos rfl]
    simp only [if_true]
    by_cases hm : mayt t d r
    · obtain ⟨hok, hv0, hv1, ha⟩ := hg
      obtain ⟨V, rfl⟩ := Int.eq_ofNat_of_zero_le hv0
      have hVl : V < l.length := by omega
      have hlen := leadok_len hok
      have hokg := gra_ok hok hVl ha
      have hgl := gra_length l V a
      have hr := thr_rng hok
      have hrg := thr_rng hokg
      rw [hgl] at hrg
      have hmono : thr l (maj l.length) ≤ thr (gra l V a) (maj l.length) := by
        refine thr_mono _ _ _ (by unfold maj; omega) (by unfold maj; omega) hgl.symm (fun i hi => ?_)
        rw [gra_get l V a i hVl]
        split
        · rename_i e1
          rw [e1]
          omega
        · exact Int.le_refl _
      have hug := until_eq t d r e (gra l V a)
      rw [if_pos ⟨hm, hokg⟩, hgl] at hug
      rw [if_pos ⟨hm, hok⟩, Int.toNat_natCast]
      have hj1 := more_j1 K hK t d r e (V : Int) a6 a now many l0 l hlen.1 hlen.2 ha hm hmany
      rw [tattlelaw18_LeadMore.j0]
      by_cases hth : thr l (maj l.length) < 0
      · rw [if_pos hth]
        simp only
        rw [if_neg (by decide), hug, Option.bind_some]
        by_cases hthg : thr (gra l V a) (maj l.length) < 0
        · rw [if_pos hthg]
          simp only [if_true]
          rw [if_neg (by decide), decide_eq_false (by omega)]
          exact hj1
        · rw [if_neg hthg]
          simp only [if_true]
          rw [if_neg (by decide), decide_eq_false (by omega)]
          exact hj1
      · have hthg : ¬thr (gra l V a) (maj l.length) < 0 := by omega
        rw [if_neg hth]
        simp only
        rw [if_neg (by decide), hug, Option.bind_some, if_neg hthg]
        simp only [if_true]
        rw [decide_eq_false (by omega)]
        exact hj1
    · rw [if_neg (c := mayt t d r ∧ leadok l = true) (fun q => hm q.1)]
      simp only
      exact hbad _ _ _ _
  · rw [if_neg hg]
    simp only
    rw [if_neg (by decide), hbad]
end Go.Proofs.Ytgfblogneggpmaa.Pure
