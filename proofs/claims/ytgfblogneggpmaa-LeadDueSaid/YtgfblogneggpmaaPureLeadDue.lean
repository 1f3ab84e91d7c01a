/- LeadDue, over numbers and lists alone: the printed function answers true at every input. -/
import Derived.Test.YtgfblogneggpmaaAw24
import Derived.Test.YtgfblogneggpmaaFnx31
import Derived.Test.YtgfblogneggpmaaFnx34
import Derived.Test.YtgfblogneggpmaaFnx35
import Derived.Test.YtgfblogneggpmaaSayLeadDue
import Derived.Test.YtgfblogneggpmaaLead
namespace Go.Proofs.Ytgfblogneggpmaa.Pure
open Go.RowKit Go.Proofs.Ytgfblogneggpmaa.Fn Go.Proofs.YtgfblogneggpmaaW.PrintWords Go.Proofs.YtgfblogneggpmaaW.PrintMore Go.Proofs.Ytgfblogneggpmaa.Vote Go.Proofs.Ytgfblogneggpmaa.Thr

theorem LeadDue : tattlelaw18_LeadDue.Pure := by
  intro t d r e l0 a5 a6 a7 now by_ _ _ _ _ _ _ _ _ _ hby
  have hby := u8_wf hby
  obtain ⟨l, hl, hll⟩ := few18_eq e l0
  obtain ⟨K, hK⟩ : ∃ K, 1000000 ≤ K := ⟨1000000, Nat.le_refl _⟩
  refine ⟨K + 2 + 2, ?_⟩
  unfold tattlelaw18_LeadDue.f
  rw [hl, Option.bind_some]
  simp only
  have hu := until_eq t d r e l
  have hbad : ∀ x y, tattlelaw18_LeadDue.j0 (K + 2 + 2) by_ x y true t d r e l0 a5 a6 a7 now e l = some true := by
    intro x y
    rw [tattlelaw18_LeadDue.j0, if_pos rfl]
    rfl
  by_cases hg : mayt t d r ∧ leadok l = true
  · rw [if_pos hg] at hu
    have hr := thr_rng hg.2
    have hh := hold_le (t := t) (d := d) (r := r) (by have := hg.1.1; omega) hg.1.2.2.1 hg.1.2.2.2.2.1
    have ht := hg.1.2.1
    have hh1 := hg.1.2.2.2.2.2.2
    have hH := hold_eq t d r
    rw [if_pos hg.1] at hH
    have hRH := rhold_eq K hK t d r
    rw [if_pos hg.1] at hRH
    generalize thr l (maj l.length) = th at *
    generalize hold t d r = h at *
    by_cases hth : th < 0
    · rw [if_pos hth] at hu
      have hdue : ∀ z, lead_Due.f t d r e l z = some true := by
        intro z
        unfold lead_Due.f
        rw [hu, Option.bind_some, hH, Option.bind_some]
        rfl
      have hval : ∀ z, lead_Valid.f t d r e l z = some false := by
        intro z
        unfold lead_Valid.f
        rw [hu, Option.bind_some]
        rfl
      rw [hu, Option.bind_some]
      simp only [if_true]
      by_cases h1 : now < 0
      · rw [if_pos h1, hbad]
      rw [if_neg h1]
      by_cases h2 : now > 2199023255552
      · rw [decide_eq_true h2, hbad]
      rw [decide_eq_false h2, tattlelaw18_LeadDue.j0, if_neg (by decide), hdue, Option.bind_some, hdue, Option.bind_some, hval, Option.bind_some, hval, Option.bind_some, if_pos rfl, if_pos rfl, if_neg (by decide), tattlelaw18_LeadDue.j1, if_neg (by decide), if_pos rfl, if_neg (by decide), if_neg (by decide)]
      rfl
    · rw [if_neg hth] at hu
      have hdue : ∀ z, lead_Due.f t d r e l z = some (decide (z ≥ th + (h : Int) - (h : Int) / 2)) := by
        intro z
        unfold lead_Due.f
        rw [hu, Option.bind_some, hH, Option.bind_some]
        simp only [if_true]
        rw [Int.tdiv_eq_ediv_of_nonneg (by omega), w64_id ((h : Int) / 2) (by omega) (by omega), w64_id _ (by omega) (by omega)]
      have hval : ∀ z, lead_Valid.f t d r e l z = some (decide (z < th + (h : Int))) := by
        intro z
        unfold lead_Valid.f
        rw [hu, Option.bind_some]
        simp only [if_true]
      rw [hu, Option.bind_some]
      simp only [if_true]
      by_cases h1 : now < 0
      · rw [if_pos h1, hbad]
      rw [if_neg h1]
      by_cases h2 : now > 2199023255552
      · rw [decide_eq_true h2, hbad]
      have e1 : wrap64 by_ = by_ := w64_id _ (by omega) (by omega)
      have e2 : wrap64 (now + by_) = now + by_ := w64_id _ (by omega) (by omega)
      have e3 : wrap64 (th + (h : Int) - now) = th + (h : Int) - now := w64_id _ (by omega) (by omega)
      have e4 : wrap64 (2 * (th + (h : Int) - now)) = 2 * (th + (h : Int) - now) := w64_id _ (by omega) (by omega)
      have e5 : wrap64 ((h : Int) - 1) = (h : Int) - 1 := w64_id _ (by omega) (by omega)
      rw [decide_eq_false h2, tattlelaw18_LeadDue.j0, if_neg (by decide), hdue, Option.bind_some, e1, e2, hdue, Option.bind_some, hval, Option.bind_some, hval, Option.bind_some]
      have haw : tattlelaw18_awakeT.f = some true := rfl
      have hj : ∀ (p q : Bool), (p = true ∨ 2 * (th + (h : Int) - now) > (h : Int) - 1) → tattlelaw18_LeadDue.j1 (K + 2 + 1) (th + (h : Int)) true p q false t d r e l0 a5 a6 a7 now = some true := by
        intro p q hp
        rw [tattlelaw18_LeadDue.j1, if_neg (by decide)]
        cases p with
        | true =>
          rw [if_pos rfl, if_pos rfl, haw]
          rfl
        | false =>
          have hp2 : 2 * (th + (h : Int) - now) > (h : Int) - 1 := by
            rcases hp with hp | hp
            · cases hp
            · exact hp
          rw [if_neg (by decide), if_pos rfl, hRH, Option.bind_some, e3, e4, e5, if_pos hp2, haw]
          rfl
      by_cases a1 : now ≥ th + (h : Int) - (h : Int) / 2
      · have a2 : now + by_ ≥ th + (h : Int) - (h : Int) / 2 := by omega
        rw [decide_eq_true a1, decide_eq_true a2, if_pos rfl, if_pos rfl]
        by_cases b2 : now + by_ < th + (h : Int)
        · have b1 : now < th + (h : Int) := by omega
          rw [decide_eq_true b2, decide_eq_true b1, if_pos rfl, if_pos rfl]
          exact hj _ _ (.inl rfl)
        · rw [decide_eq_false b2, if_neg (by decide)]
          exact hj _ _ (.inl rfl)
      · have b1 : now < th + (h : Int) := by omega
        have hgt : 2 * (th + (h : Int) - now) > (h : Int) - 1 := by omega
        rw [decide_eq_false a1, if_neg (by decide), decide_eq_true b1]
        by_cases b2 : now + by_ < th + (h : Int)
        · rw [decide_eq_true b2, if_pos rfl, if_pos rfl]
          exact hj _ _ (.inr hgt)
        · rw [decide_eq_false b2, if_neg (by decide)]
          exact hj _ _ (.inr hgt)
  · rw [if_neg hg] at hu
    rw [hu, Option.bind_some]
    simp only
    rw [if_neg (by decide), hbad]
end Go.Proofs.Ytgfblogneggpmaa.Pure
