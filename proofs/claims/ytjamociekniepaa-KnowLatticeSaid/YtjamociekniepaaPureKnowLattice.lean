/- KnowLattice, over numbers alone: the printed function answers true at every input. -/
import Derived.Test.YtjamociekniepaaFnx0
import Derived.Test.YtjamociekniepaaFnx4
import Derived.Test.YtjamociekniepaaFnx8
import Derived.Test.YtjamociekniepaaSayKnowLattice
import Derived.Test.YtjamociekniepaaKnow2
namespace Go.Proofs.Ytjamociekniepaa.Pure
open Go.RowKit Go.Proofs.Ytjamociekniepaa.Fn Go.Proofs.YtjamociekniepaaW.PrintWords Go.Proofs.YtjamociekniepaaW.PrintMore Go.Proofs.Ytjamociekniepaa.Know

theorem eqb_iff (a b : S26) : (a.f0 == b.f0 && (a.f1 == b.f1)) = true ↔ a = b := by
  constructor
  · intro h
    simp only [Bool.and_eq_true, beq_iff_eq] at h
    exact ext26 h.1 h.2
  · rintro rfl; simp

theorem lattice_j0 {a b c : S26} (ha : may a = true) (hb : may b = true) (hc : may c = true) (ha0 : 0 ≤ a.f0) (hb0 : 0 ≤ b.f0) (K : Nat) (hK : 10 ≤ K) :
    tattlelaw05_KnowLattice.j0 (K + 1) false a.f0 a.f1 b.f0 b.f1 c.f0 c.f1 = some true := by
  have hp : may (jn a b) = true := jn_may hb ha
  have hp0 : 0 ≤ (jn a b).f0 := by rcases jn_cases hb ha with ⟨h, _⟩ | ⟨h, _⟩ <;> rw [h] <;> assumption
  have hr : may (jn b c) = true := jn_may hc hb
  have e1 : know_Join.f K [(⟨a.f0, a.f1⟩ : S26), (⟨b.f0, b.f1⟩ : S26)] = some ((jn a b).f0, (jn a b).f1, 0) := join2 K ha hb ha0 (by omega)
  have e2 : know_Join.f K [(⟨b.f0, b.f1⟩ : S26), (⟨a.f0, a.f1⟩ : S26), (⟨a.f0, a.f1⟩ : S26)] = some ((jn a b).f0, (jn a b).f1, 0) := by
    have hm : ∀ x ∈ [b, a, a], may x = true := by simp [ha, hb]
    have e : know_Join.f K [b, a, a] = some ((jn a b).f0, (jn a b).f1, 0) := by
      rw [join_eq K _ (by simp [maxLen]) (by simp; omega), chk_zero.2 hm, if_pos rfl]
      have : jall [b, a, a] = jn a b := by
        refine le_antisymm (fold_lub _ _ _ may_zero hm (le_zero hp0 hp) ?_) (jn_lub hb ha (fold_mem _ _ may_zero hm b (by simp)) (fold_mem _ _ may_zero hm a (by simp)))
        intro x hx
        simp only [List.mem_cons, List.not_mem_nil, or_false] at hx
        rcases hx with rfl | rfl | rfl
        · exact jn_right hb ha
        · exact jn_left hb ha
        · exact jn_left hb ha
      rw [this]
    exact e
  have e3 : know_Join.f K [(⟨(jn a b).f0, (jn a b).f1⟩ : S26), (⟨c.f0, c.f1⟩ : S26)] = some ((jn (jn a b) c).f0, (jn (jn a b) c).f1, 0) := join2 K hp hc hp0 (by omega)
  have e4 : know_Join.f K [(⟨b.f0, b.f1⟩ : S26), (⟨c.f0, c.f1⟩ : S26)] = some ((jn b c).f0, (jn b c).f1, 0) := join2 K hb hc hb0 (by omega)
  have es : jn a (jn b c) = jn (jn a b) c := by
    refine le_antisymm (jn_lub hr ha ?_ ?_) (jn_lub hc hp ?_ ?_)
    · exact jn_lub hc hb (jn_right hc hp) (le_trans (jn_right hb ha) (jn_left hc hp))
    · exact le_trans (jn_left hb ha) (jn_left hc hp)
    · exact le_trans (jn_right hc hb) (jn_right hr ha)
    · exact jn_lub hb ha (le_trans (jn_left hc hb) (jn_right hr ha)) (jn_left hr ha)
  have e5 : know_Join.f K [(⟨a.f0, a.f1⟩ : S26), (⟨(jn b c).f0, (jn b c).f1⟩ : S26)] = some ((jn (jn a b) c).f0, (jn (jn a b) c).f1, 0) := by
    have h := join2 K ha hr ha0 (by omega)
    rw [es] at h
    exact h
  have b1 : bts ⟨a.f0, a.f1⟩ ⟨(jn a b).f0, (jn a b).f1⟩ = false := bts_false ha hp (jn_left hb ha)
  have b2 : bts ⟨b.f0, b.f1⟩ ⟨(jn a b).f0, (jn a b).f1⟩ = false := bts_false hb hp (jn_right hb ha)
  rw [tattlelaw05_KnowLattice.j0, if_neg (by decide), e1, Option.bind_some, e2, Option.bind_some, e3, Option.bind_some, e4, Option.bind_some]
  simp only [e5, Option.bind_some, if_true, beq_self_eq_true, Bool.and_self, beats_eq _ _ _ _ _ (show 3 ≤ K by omega), b1, b2, awake_eq]
  rcases jn_cases hb ha with ⟨h, _⟩ | ⟨h, _⟩ <;> rw [h] <;> simp

theorem KnowLattice : tattlelaw05_KnowLattice.Pure := by
  intro a0 a1 b0 b1 c0 c1 wa _ wb _ wc _
  have ha0 := (u64_wf wa).1
  have hb0 := (u64_wf wb).1
  refine ⟨29 + 1, ?_⟩
  unfold tattlelaw05_KnowLattice.f
  rw [check_eq (29 + 1) _ (by simp [maxLen]) (by simp), Option.bind_some]
  by_cases hk : chk [(⟨a0, a1⟩ : S26), ⟨b0, b1⟩, ⟨c0, c1⟩] = 0
  · rw [if_pos hk]
    have hm := chk_zero.1 hk
    have ha : may ⟨a0, a1⟩ = true := hm _ (by simp)
    have hb : may ⟨b0, b1⟩ = true := hm _ (by simp)
    have hc : may ⟨c0, c1⟩ = true := hm _ (by simp)
    have hj := lattice_j0 ha hb hc ha0 hb0 29 (by decide)
    dsimp only at hj
    simp only [beats_eq _ _ _ _ _ (show 3 ≤ 29 + 1 by decide), Option.bind_some]
    have heq := eqb_iff ⟨a0, a1⟩ ⟨b0, b1⟩
    simp only at heq
    by_cases hab : le ⟨a0, a1⟩ ⟨b0, b1⟩
    · rw [bts_false ha hb hab, if_neg (by decide)]
      by_cases hba : le ⟨b0, b1⟩ ⟨a0, a1⟩
      · rw [bts_false hb ha hba, if_neg (by decide)]
        have hq := le_antisymm hab hba
        simp only [S26.mk.injEq] at hq
        obtain ⟨rfl, rfl⟩ := hq
        rw [if_neg (by simp)]
        exact hj
      · have : (a0 == b0 && (a1 == b1)) = false := by
          rw [Bool.eq_false_iff]
          intro h
          rw [heq.1 h] at hba
          exact hba (le_refl _)
        rw [bts_true hb ha hba, if_pos rfl, this, if_neg (by decide)]
        exact hj
    · have hba : le ⟨b0, b1⟩ ⟨a0, a1⟩ := (le_total _ _).resolve_left hab
      have : (a0 == b0 && (a1 == b1)) = false := by
        rw [Bool.eq_false_iff]
        intro h
        rw [heq.1 h] at hab
        exact hab (le_refl _)
      rw [bts_true ha hb hab, if_pos rfl, bts_false hb ha hba, if_neg (by decide), this, if_neg (by decide)]
      by_cases hbc : le ⟨b0, b1⟩ ⟨c0, c1⟩
      · rw [bts_false hb hc hbc, if_neg (by decide)]
        exact hj
      · have hac : ¬ le ⟨a0, a1⟩ ⟨c0, c1⟩ := fun h => hbc (le_trans hba h)
        rw [bts_true hb hc hbc, if_pos rfl, bts_true ha hc hac]
        exact hj
  · rw [if_neg hk, awake_eq]
    rfl
end Go.Proofs.Ytjamociekniepaa.Pure
