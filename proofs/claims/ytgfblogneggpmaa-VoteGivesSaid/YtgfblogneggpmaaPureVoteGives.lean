/- VoteGives, over numbers alone: the printed function answers true at every input. -/
import Derived.Test.YtgfblogneggpmaaFnx0
import Derived.Test.YtgfblogneggpmaaFnx12
import Derived.Test.YtgfblogneggpmaaSayVoteGives
import Derived.Test.YtgfblogneggpmaaVote
namespace Go.Proofs.Ytgfblogneggpmaa.Pure
open Go.RowKit Go.Proofs.Ytgfblogneggpmaa.Fn Go.Proofs.YtgfblogneggpmaaW.PrintWords Go.Proofs.YtgfblogneggpmaaW.PrintMore Go.Proofs.Ytgfblogneggpmaa.Vote

theorem gives_j1 (K : Nat) (t d r E who until_ wait from_ epoch now : Int) (h : maya t d r who until_ wait from_ now) (h1 : now ≤ 549755813888) (hg : bars E who until_ wait from_ epoch now = false) :
    tattlelaw17_VoteGives.j1 (K + 1) true false t d r E who until_ wait from_ epoch now epoch from_ (wrap64 (now + t)) wait = some true := by
  obtain ⟨⟨k1, k2, k3⟩, ⟨k4, k5, k6, k7, k8⟩, k9, k10, k11⟩ := h
  have hg' := hg
  unfold bars at hg
  simp only [Bool.or_eq_false_iff] at hg
  obtain ⟨⟨⟨g0, g1⟩, g2⟩, g3⟩ := hg
  unfold bar0 at g0
  rw [decide_eq_false_iff_not] at g0
  unfold bar1 at g1
  simp only [Bool.or_eq_false_iff, decide_eq_false_iff_not] at g1
  have e1 : wrap64 (now + 1) = now + 1 := w64_id _ (by omega) (by omega)
  have e2 : wrap64 (now + t) = now + t := w64_id _ (by omega) (by omega)
  have e3 : wrap64 (now + t - 1) = now + t - 1 := w64_id _ (by omega) (by omega)
  have e4 : wrap64 (now + t + 1) = now + t + 1 := w64_id _ (by omega) (by omega)
  have e5 : wrap64 (now + 1 + t) = now + t + 1 := by rw [w64_id _ (by omega) (by omega)]; omega
  have e6 : wrap64 (from_ + 1) = from_ + 1 := w64_id _ (by omega) (by omega)
  have e7 : Int.tmod (from_ + 1) 64 = (from_ + 1) % 64 := Int.tmod_eq_emod_of_nonneg (by omega)
  have hm1 : maya t d r from_ (now + t) wait from_ (now + 1) := ⟨⟨k1, k2, k3⟩, ⟨.inr k9, by omega, by omega, by omega, by omega⟩, k9, by omega, by omega⟩
  have hm2 : maya t d r from_ (now + t) wait ((from_ + 1) % 64) (now + t - 1) := ⟨⟨k1, k2, k3⟩, ⟨.inr k9, by omega, by omega, by omega, by omega⟩, ⟨by omega, by omega⟩, by omega, by omega⟩
  have b1 : bars epoch from_ (now + t) wait from_ epoch (now + 1) = false := by
    unfold bars bar0 bar1 bar2 bar3 barO
    simp only [bne_self_eq_false, Bool.and_false, Bool.or_false, g1.2]
    rw [decide_eq_false (by omega), decide_eq_false (by omega)]
    rfl
  have b2 : ∀ e : Int, bars epoch from_ (now + t) wait ((from_ + 1) % 64) e (now + t - 1) = true := by
    intro e
    have q1 : (from_ != -1) = true := by simp; omega
    have q2 : (from_ != (from_ + 1) % 64) = true := by simp; omega
    unfold bars bar3 barO
    rw [decide_eq_true (show now + t - 1 < now + t by omega), q1, q2]
    simp
  rw [tattlelaw17_VoteGives.j1, if_neg (by decide), if_pos rfl, e1, e2, e3, e6, e7, ask_ok hm1, b1, if_neg (by decide), Option.bind_some, ask_ok hm2, b2, if_pos rfl, Option.bind_some, e4, e5]
  simp only [if_true, Bool.false_eq_true, if_false]
  rfl
theorem gives_j1' (K : Nat) (t d r E who until_ wait from_ epoch now : Int) : tattlelaw17_VoteGives.j1 (K + 1) false false t d r E who until_ wait from_ epoch now E who until_ wait = some true := by
  rw [tattlelaw17_VoteGives.j1, if_neg (by decide), if_neg (by decide)]
  simp only [beq_self_eq_true, Bool.and_self, if_true]
  rfl
theorem VoteGives : tattlelaw17_VoteGives.Pure := by
  intro t d r E who until_ wait from_ epoch now _ _ _ hE _ _ _ _ _ _
  refine ⟨700 + 2, ?_⟩
  have hE := u64_wf hE
  unfold tattlelaw17_VoteGives.f
  by_cases h : maya t d r who until_ wait from_ now
  · rw [ask_ok h]
    cases hg : bars E who until_ wait from_ epoch now with
    | true =>
      rw [if_pos rfl, Option.bind_some]
      simp only [if_true]
      by_cases h1 : now > 549755813888
      · rw [decide_eq_true h1, tattlelaw17_VoteGives.j0, if_pos rfl, if_pos rfl, if_neg (by decide)]
        simp only [beq_self_eq_true, Bool.and_self, if_true]
        rfl
      · rw [decide_eq_false h1, tattlelaw17_VoteGives.j0, if_neg (by decide)]
        by_cases q1 : epoch > E
        · by_cases q2 : now ≥ until_
          · by_cases q3 : now ≥ wait
            · exfalso
              unfold bars bar0 bar1 bar2 bar3 at hg
              rw [decide_eq_false (show ¬now < wait by omega), decide_eq_false (show ¬epoch < E by omega), decide_eq_false (show ¬now < until_ by omega), show (epoch == 0) = false by simp; omega, show (epoch == E) = false by simp; omega] at hg
              simp at hg
            · rw [if_pos q1, if_pos q2, if_neg q3]; exact gives_j1' 700 _ _ _ _ _ _ _ _ _ _
          · rw [if_pos q1, if_neg q2]; exact gives_j1' 700 _ _ _ _ _ _ _ _ _ _
        · rw [if_neg q1]; exact gives_j1' 700 _ _ _ _ _ _ _ _ _ _
    | false =>
      rw [if_neg (by decide), Option.bind_some]
      simp only [if_true]
      by_cases h1 : now > 549755813888
      · rw [decide_eq_true h1, tattlelaw17_VoteGives.j0, if_pos rfl, if_pos rfl, if_pos rfl]
        rfl
      · have hj := gives_j1 700 t d r E who until_ wait from_ epoch now h (by omega) hg
        rw [decide_eq_false h1, tattlelaw17_VoteGives.j0, if_neg (by decide), Bool.not_true]
        by_cases q1 : epoch > E
        · by_cases q2 : now ≥ until_
          · by_cases q3 : now ≥ wait
            · rw [if_pos q1, if_pos q2, if_pos q3]; exact hj
            · rw [if_pos q1, if_pos q2, if_neg q3]; exact hj
          · rw [if_pos q1, if_neg q2]; exact hj
        · rw [if_neg q1]; exact hj
  · rw [ask_no h, Option.bind_some]
    simp only
    rw [if_neg (by decide), tattlelaw17_VoteGives.j0, if_pos rfl, if_neg (by decide)]
    rfl
end Go.Proofs.Ytgfblogneggpmaa.Pure
