/- KnowDies, over numbers alone: the printed function answers true at every input. -/
import Derived.Test.YtjamociekniepaaSayKnowDies
import Derived.Test.YtjamociekniepaaKnow2
namespace Go.Proofs.Ytjamociekniepaa.Pure
open Go.RowKit Go.Proofs.Ytjamociekniepaa.Fn Go.Proofs.YtjamociekniepaaW.PrintWords Go.Proofs.YtjamociekniepaaW.PrintMore Go.Proofs.Ytjamociekniepaa.Know

theorem low2 (a : Int) (h0 : 0 ≤ a) (_ : a ≤ 255) : wrap64 (Int.tmod a 4) = a % 4 := by
  rw [Int.tmod_eq_emod_of_nonneg h0]
  unfold wrap64
  omega

theorem KnowDies : tattlelaw05_KnowDies.Pure := by
  intro inc a b hi ha hb
  obtain ⟨hi0, hi1⟩ := u64_wf hi
  obtain ⟨ha0, ha1⟩ := u8_wf ha
  obtain ⟨hb0, hb1⟩ := u8_wf hb
  refine ⟨40, ?_⟩
  unfold tattlelaw05_KnowDies.f
  rw [low2 a ha0 ha1, low2 b hb0 hb1]
  obtain ⟨x, hx⟩ : ∃ x, a % 4 = x := ⟨_, rfl⟩
  obtain ⟨y, hy⟩ : ∃ y, b % 4 = y := ⟨_, rfl⟩
  have hx0 : 0 ≤ x ∧ x ≤ 3 := by omega
  have hy0 : 0 ≤ y ∧ y ≤ 3 := by omega
  have mx_ : may ⟨inc, x⟩ = true := by simp [may, hx0]
  have my_ : may ⟨inc, y⟩ = true := by simp [may, hy0]
  rw [hx, hy, join2 40 mx_ my_ hi0 (by decide), Option.bind_some, beats_eq _ _ _ _ _ (by decide), Option.bind_some]
  have hj : jn ⟨inc, x⟩ ⟨inc, y⟩ = ⟨inc, mx x y⟩ := by
    unfold jn
    simp only [bts, mx_, my_, Bool.and_true, Bool.true_and, Int.lt_irrefl, decide_false, Bool.false_or, decide_true, decide_eq_true_eq, mx]
    split <;> rfl
  have hb : bts ⟨inc, x⟩ ⟨inc, y⟩ = decide (x > y) := by
    simp only [bts, mx_, my_, Bool.and_true, Bool.true_and, Int.lt_irrefl, decide_false, Bool.false_or, decide_true]
  rw [hj, hb]
  simp only [if_true, bne_self_eq_false]
  rw [tattlelaw05_KnowDies.j0, if_neg (by decide)]
  by_cases hmax : inc = 18446744073709551615
  · rw [if_pos hmax]
    simp [awake_eq]
  · rw [if_neg hmax, u64_in inc hi0 (by omega), low2 a ha0 ha1, hx]
    have mz : may ⟨inc + 1, x⟩ = true := by simp [may, hx0]
    have e3 : know_Join.f 39 [⟨inc, x⟩, ⟨inc, y⟩, ⟨inc + 1, x⟩] = some (inc + 1, x, 0) := by
      rw [join_eq 39 _ (by simp [maxLen]) (by simp)]
      have ec : chk [⟨inc, x⟩, ⟨inc, y⟩, ⟨inc + 1, x⟩] = 0 := chk_zero.2 (by simp [mx_, my_, mz])
      have ej : jall [⟨inc, x⟩, ⟨inc, y⟩, ⟨inc + 1, x⟩] = ⟨inc + 1, x⟩ := by
        refine le_antisymm (fold_lub _ _ _ may_zero (by simp [mx_, my_, mz]) (le_zero (by simp only; omega) mz) ?_) (fold_mem _ _ may_zero (by simp [mx_, my_, mz]) _ (by simp))
        intro c hc
        simp only [List.mem_cons, List.not_mem_nil, or_false] at hc
        rcases hc with rfl | rfl | rfl
        · left; simp only; omega
        · left; simp only; omega
        · exact le_refl _
      rw [ec, if_pos rfl, ej]
    rw [e3, Option.bind_some]
    have hb2 : bts ⟨inc + 1, x⟩ ⟨inc, 3⟩ = true := by
      refine bts_true mz (by simp [may]) ?_
      unfold le
      simp only
      omega
    have hu : know_Up.f (inc + 1) x = some (decide (x < 2)) := by
      unfold know_Up.f
      by_cases h0 : x = 0
      · subst h0; rfl
      · rw [if_neg h0]
        congr 1
        rw [Bool.eq_iff_iff]
        simp
        omega
    simp only [beq_self_eq_true, Bool.and_self, if_true, beats_eq _ _ _ _ _ (show 3 ≤ 39 by decide), hb2, hu, Option.bind_some, awake_eq _ (show 7 ≤ 39 by decide)]
end Go.Proofs.Ytjamociekniepaa.Pure
