/- VoteSame, over numbers alone: the printed function answers true at every input. -/
import Derived.Test.YtgfblogneggpmaaFnx0
import Derived.Test.YtgfblogneggpmaaFnx13
import Derived.Test.YtgfblogneggpmaaSayVoteSame
import Derived.Test.YtgfblogneggpmaaVote
namespace Go.Proofs.Ytgfblogneggpmaa.Pure
open Go.RowKit Go.Proofs.Ytgfblogneggpmaa.Fn Go.Proofs.YtgfblogneggpmaaW.PrintWords Go.Proofs.YtgfblogneggpmaaW.PrintMore Go.Proofs.Ytgfblogneggpmaa.Vote

theorem bars_later (E who until_ wait from_ epoch now b : Int) : bars E who (until_ + b) (wait + b) from_ epoch (now + b) = bars E who until_ wait from_ epoch now := by
  have e1 : bar0 (wait + b) (now + b) = bar0 wait now := by unfold bar0; exact decide_eq_decide.2 (by omega)
  have e2 : decide (now + b < until_ + b) = decide (now < until_) := decide_eq_decide.2 (by omega)
  unfold bars bar3
  rw [e1, e2]
theorem same_j0 (K : Nat) (t d r E who until_ wait from_ epoch now b : Int) (hb : 0 ≤ b ∧ b ≤ 65535) (h : maya t d r who until_ wait from_ now) (h1 : now ≤ 549755813888) (h2 : until_ ≤ 549755813888) (h3 : wait ≤ 549755813888) (hg : bars E who until_ wait from_ epoch now = false) :
    tattlelaw17_VoteSame.j0 (K + 1) b true false t d r E who until_ wait from_ epoch now epoch from_ (wrap64 (now + t)) wait = some true := by
  obtain ⟨⟨k1, k2, k3⟩, ⟨k4, k5, k6, k7, k8⟩, k9, k10, k11⟩ := h
  have e1 : wrap64 b = b := w64_id _ (by omega) (by omega)
  have e2 : wrap64 (until_ + b) = until_ + b := w64_id _ (by omega) (by omega)
  have e3 : wrap64 (wait + b) = wait + b := w64_id _ (by omega) (by omega)
  have e4 : wrap64 (now + b) = now + b := w64_id _ (by omega) (by omega)
  have e5 : wrap64 (now + t) = now + t := w64_id _ (by omega) (by omega)
  have e6 : wrap64 (now + t + b) = now + t + b := w64_id _ (by omega) (by omega)
  have e7 : wrap64 (now + b + t) = now + t + b := by rw [w64_id _ (by omega) (by omega)]; omega
  have hm : maya t d r who (until_ + b) (wait + b) from_ (now + b) := ⟨⟨k1, k2, k3⟩, ⟨k4, by omega, by omega, by omega, by omega⟩, k9, by omega, by omega⟩
  rw [tattlelaw17_VoteSame.j0, if_neg (by decide), e1, e2, e3, e4, ask_ok hm, bars_later, hg, if_neg (by decide), Option.bind_some, e5, e7]
  simp only [if_true, bne_self_eq_false, Bool.false_eq_true, if_false, e6]
  rfl
theorem same_j0' (K : Nat) (t d r E who until_ wait from_ epoch now b : Int) (hb : 0 ≤ b ∧ b ≤ 65535) (h : maya t d r who until_ wait from_ now) (h1 : now ≤ 549755813888) (h2 : until_ ≤ 549755813888) (h3 : wait ≤ 549755813888) (hg : bars E who until_ wait from_ epoch now = true) :
    tattlelaw17_VoteSame.j0 (K + 1) b false false t d r E who until_ wait from_ epoch now E who until_ wait = some true := by
  obtain ⟨⟨k1, k2, k3⟩, ⟨k4, k5, k6, k7, k8⟩, k9, k10, k11⟩ := h
  have e1 : wrap64 b = b := w64_id _ (by omega) (by omega)
  have e2 : wrap64 (until_ + b) = until_ + b := w64_id _ (by omega) (by omega)
  have e3 : wrap64 (wait + b) = wait + b := w64_id _ (by omega) (by omega)
  have e4 : wrap64 (now + b) = now + b := w64_id _ (by omega) (by omega)
  have hm : maya t d r who (until_ + b) (wait + b) from_ (now + b) := ⟨⟨k1, k2, k3⟩, ⟨k4, by omega, by omega, by omega, by omega⟩, k9, by omega, by omega⟩
  rw [tattlelaw17_VoteSame.j0, if_neg (by decide), e1, e2, e3, e4, ask_ok hm, bars_later, hg, if_pos rfl, Option.bind_some]
  simp only [if_true, bne_self_eq_false, Bool.false_eq_true, if_false, beq_self_eq_true, Bool.not_true, Bool.or_self]
  rfl
theorem VoteSame : tattlelaw17_VoteSame.Pure := by
  intro t d r E who until_ wait from_ epoch now b _ _ _ _ _ _ _ _ _ _ hb
  refine ⟨700 + 1, ?_⟩
  have hb := u16_wf hb
  have hbad : ∀ (K : Nat) (y : Bool) (a1 a2 a3 a4 : Int), tattlelaw17_VoteSame.j0 (K + 1) b y true t d r E who until_ wait from_ epoch now a1 a2 a3 a4 = some true := by
    intro K y a1 a2 a3 a4
    rw [tattlelaw17_VoteSame.j0, if_pos rfl]
    rfl
  unfold tattlelaw17_VoteSame.f
  by_cases h : maya t d r who until_ wait from_ now
  · rw [ask_ok h]
    cases hg : bars E who until_ wait from_ epoch now with
    | true =>
      rw [if_pos rfl, Option.bind_some]
      simp only [if_true]
      by_cases h1 : now > 549755813888
      · rw [if_pos h1]; exact hbad _ _ _ _ _ _
      · by_cases h2 : until_ > 549755813888
        · rw [if_neg h1, if_pos h2]; exact hbad _ _ _ _ _ _
        · rw [if_neg h1, if_neg h2]
          by_cases h3 : wait > 549755813888
          · rw [decide_eq_true h3]; exact hbad _ _ _ _ _ _
          · rw [decide_eq_false h3]
            exact same_j0' 700 t d r E who until_ wait from_ epoch now b hb h (by omega) (by omega) (by omega) hg
    | false =>
      rw [if_neg (by decide), Option.bind_some]
      simp only [if_true]
      by_cases h1 : now > 549755813888
      · rw [if_pos h1]; exact hbad _ _ _ _ _ _
      · by_cases h2 : until_ > 549755813888
        · rw [if_neg h1, if_pos h2]; exact hbad _ _ _ _ _ _
        · rw [if_neg h1, if_neg h2]
          by_cases h3 : wait > 549755813888
          · rw [decide_eq_true h3]; exact hbad _ _ _ _ _ _
          · rw [decide_eq_false h3]
            exact same_j0 700 t d r E who until_ wait from_ epoch now b hb h (by omega) (by omega) (by omega) hg
  · rw [ask_no h, Option.bind_some]
    simp only
    rw [if_neg (by decide)]
    exact hbad _ _ _ _ _ _
end Go.Proofs.Ytgfblogneggpmaa.Pure
