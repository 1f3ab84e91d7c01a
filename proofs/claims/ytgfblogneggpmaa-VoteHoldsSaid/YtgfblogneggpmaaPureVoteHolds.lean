/- VoteHolds, over numbers alone: the printed function answers true at every input. -/
import Derived.Test.YtgfblogneggpmaaAw16
import Derived.Test.YtgfblogneggpmaaFnx14
import Derived.Test.YtgfblogneggpmaaSayVoteHolds
import Derived.Test.YtgfblogneggpmaaVote
namespace Go.Proofs.Ytgfblogneggpmaa.Pure
open Go.RowKit Go.Proofs.Ytgfblogneggpmaa.Fn Go.Proofs.YtgfblogneggpmaaW.PrintWords Go.Proofs.YtgfblogneggpmaaW.PrintMore Go.Proofs.Ytgfblogneggpmaa.Vote

theorem holds_j0 (K : Nat) (t d r m : Int) (hm : 0 ≤ m ∧ m ≤ 255) (h : mayt t d r) : tattlelaw17_VoteHolds.j0 (K + 1) m (hold t d r : Int) false t d r = some true := by
  obtain ⟨h1, h2, h3, h4, h5, h6, h7⟩ := h
  have e1 : wrap64 m = m := w64_id _ (by omega) (by omega)
  have e2 : wrap64 (t + m) = t + m := w64_id _ (by omega) (by omega)
  have e3 : wrap64 (d + m) = d + m := w64_id _ (by omega) (by omega)
  rw [tattlelaw17_VoteHolds.j0, if_neg (by decide), e1, e2, e3, hold_eq, Option.bind_some, hold_eq, Option.bind_some]
  have hb : ((if mayt t (d + m) r then ((hold t (d + m) r : Int), 0) else ((0 : Int), (1 : Int))).2 = 0) → (if mayt t (d + m) r then ((hold t (d + m) r : Int), 0) else ((0 : Int), (1 : Int))).1 ≤ (hold t d r : Int) := by
    intro _
    split
    · have := hold_less (t := t) (d := d) (d' := d + m) (r := r) (by omega) h3 (by omega) h5
      simp only
      omega
    · simp only
      omega
  generalize (if mayt t (d + m) r then ((hold t (d + m) r : Int), 0) else ((0 : Int), (1 : Int))) = Y at hb
  have tail : (if Y.2 = 0 then (if Y.1 ≤ (hold t d r : Int) then (tattlelaw17_awakeT.f).bind fun t315 => some t315 else some false) else (tattlelaw17_awakeT.f).bind fun t316 => some t316) = some true := by
    by_cases hY : Y.2 = 0
    · rw [if_pos hY, if_pos (hb hY)]; rfl
    · rw [if_neg hY]; rfl
  have hmore := hold_more (t := t) (t' := t + m) (d := d) (r := r) (by omega) (by omega) h3 h5
  by_cases hx : mayt (t + m) d r
  · rw [if_pos hx, if_pos rfl, if_pos (by simp only; omega)]
    exact tail
  · rw [if_neg hx, if_neg (by decide), if_pos (Decidable.not_not.1 (fun q => hx ⟨by omega, by omega, h3, h4, h5, h6, by omega⟩))]
    exact tail
theorem VoteHolds : tattlelaw17_VoteHolds.Pure := by
  intro t d r m _ _ _ hm
  refine ⟨700 + 1, ?_⟩
  have hm := u8_wf hm
  unfold tattlelaw17_VoteHolds.f
  rw [hold_eq, Option.bind_some]
  unfold clock_Guard.f
  by_cases h : mayt t d r
  · have h' := h
    obtain ⟨h1, h2, h3, h4, h5, h6, h7⟩ := h'
    have hle := hold_le (t := t) (d := d) (r := r) (by omega) h3 h5
    have hj := holds_j0 700 t d r m hm h
    rw [if_pos h, if_pos ⟨by omega, by omega, h3, h4, h5, h6⟩, Option.bind_some, if_pos rfl, if_pos rfl]
    show (if ((hold t d r : Nat) : Int) = ((hold t d r : Nat) : Int) then (if ((hold t d r : Nat) : Int) < 1 then tattlelaw17_VoteHolds.j0 (700 + 1) m (hold t d r : Int) true t d r else tattlelaw17_VoteHolds.j0 (700 + 1) m (hold t d r : Int) (decide (((hold t d r : Nat) : Int) > t)) t d r) else tattlelaw17_VoteHolds.j0 (700 + 1) m (hold t d r : Int) true t d r) = some true
    rw [if_pos rfl, if_neg (by omega), decide_eq_false (by omega)]
    exact hj
  · rw [if_neg h]
    by_cases hg : 0 ≤ t ∧ t ≤ 1099511627776 ∧ 0 ≤ d ∧ d ≤ 1099511627776 ∧ 1 ≤ r ∧ r ≤ 1099511627776
    · rw [if_pos hg, Option.bind_some, if_neg (show ¬((0 : Int), (1 : Int)).2 = 0 by decide)]
      show (if (0 : Int) = 0 then (if (0 : Int) = 0 then (if ((hold t d r : Nat) : Int) < 1 then (tattlelaw17_awakeT.f).bind fun t305 => some t305 else (if t < 1 then (tattlelaw17_awakeT.f).bind fun t306 => some t306 else (if t > 1000000 then (tattlelaw17_awakeT.f).bind fun t307 => some t307 else some false))) else (tattlelaw17_awakeT.f).bind fun t308 => some t308) else some false) = some true
      rw [if_pos rfl, if_pos rfl]
      by_cases q1 : ((hold t d r : Nat) : Int) < 1
      · rw [if_pos q1]; rfl
      · by_cases q2 : t < 1
        · rw [if_neg q1, if_pos q2]; rfl
        · by_cases q3 : t > 1000000
          · rw [if_neg q1, if_neg q2, if_pos q3]; rfl
          · exact absurd ⟨by omega, by omega, hg.2.2.1, hg.2.2.2.1, hg.2.2.2.2.1, hg.2.2.2.2.2, by omega⟩ h
    · rw [if_neg hg, Option.bind_some, if_neg (show ¬((0 : Int), (1 : Int)).2 = 0 by decide)]; rfl
end Go.Proofs.Ytgfblogneggpmaa.Pure
