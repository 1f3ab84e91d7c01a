/- TableMerges, over lists alone: the printed function answers true at every input. -/
import Derived.Test.YtjamociekniepaaAw28
import Derived.Test.YtjamociekniepaaFnx25
import Derived.Test.YtjamociekniepaaSayTableMerges
import Derived.Test.YtjamociekniepaaTab3
namespace Go.Proofs.Ytjamociekniepaa.Pure
open Go.RowKit Go.Proofs.Ytjamociekniepaa.Fn Go.Proofs.YtjamociekniepaaW.PrintWords Go.Proofs.YtjamociekniepaaW.PrintMore Go.Proofs.Ytjamociekniepaa.Know Go.Proofs.Ytjamociekniepaa.Tab
theorem merges_awake : tattlelaw06_awakeT.f = some true := rfl
theorem TableMerges : tattlelaw06_TableMerges.Pure := by
  intro l0 l1 l2 h0 h1 h2
  obtain ⟨_, _, hok0⟩ := h0
  obtain ⟨_, _, hok1⟩ := h1
  obtain ⟨_, _, hok2⟩ := h2
  have n0 : nn (few l0) := fun x hx => (u64_wf (hok0 x (few_mem hx)).1).1
  have n1 : nn (few l1) := fun x hx => (u64_wf (hok1 x (few_mem hx)).1).1
  have f0 := few_len l0
  have f1 := few_len l1
  have f2 := few_len l2
  obtain ⟨K, hK⟩ : ∃ K : Nat, 400 ≤ K := ⟨400, Nat.le_refl _⟩
  refine ⟨K + 2, ?_⟩
  unfold tattlelaw06_TableMerges.f
  rw [few_eq, few_eq, few_eq, Option.bind_some, Option.bind_some, Option.bind_some]
  generalize few l0 = a at *
  generalize few l1 = b at *
  generalize few l2 = c at *
  by_cases h : okt a = true ∧ okt b = true ∧ a.length = b.length
  · obtain ⟨ha, hb, hl⟩ := h
    have hp := mrg_okt ha hb hl
    have hpn := mrg_nn n0 n1
    have hpl := mrg_len hl
    have hlen := okt_len ha
    have ev : plcs (bhd b) (mrg a b) 0 = [] := by rw [mrg_comm ha hb hl]; exact bhd_left hb ha hl.symm
    rw [merge_ok (K + 2) ha hb hl n0 (by omega), merge_ok (K + 2) hb ha hl.symm n1 (by omega), Option.bind_some, Option.bind_some, if_pos rfl, ← mrg_comm ha hb hl]
    have es := same_eq (K + 1) (mrg a b) (mrg a b) (by simp [maxLen]; omega) (by omega)
    rw [decide_eq_true rfl] at es
    dsimp only
    rw [show (((0 : Int) != 0)) = false from rfl, tattlelaw06_TableMerges.j0, if_neg (by decide), behind_eq hp ha (by omega), Option.bind_some, behind_eq hp hb (by omega), Option.bind_some, merge_ok (K + 1) hp hp rfl hpn (by omega), Option.bind_some, mrg_idem, es, Option.bind_some, if_pos rfl]
    dsimp only
    rw [Option.bind_some, if_pos rfl, if_pos rfl, bhd_left ha hb hl, if_neg (by simp), ev, if_neg (by simp), if_pos rfl]
    rw [show (((0 : Int) != 0)) = false from rfl, tattlelaw06_TableMerges.j1, if_neg (by decide)]
    by_cases hc : okt c = true ∧ (mrg a b).length = c.length
    · have hbc : b.length = c.length := by omega
      have hm := mrg_okt hb hc.1 hbc
      have hml := mrg_len hbc
      have q := mrg_len (l := mrg a b) (o := c) hc.2
      rw [merge_ok K hp hc.1 hc.2 hpn (by omega), Option.bind_some, if_pos rfl, merge_ok K hb hc.1 hbc n1 (by omega), Option.bind_some, merge_ok K ha hm (by omega) n0 (by omega), Option.bind_some, if_pos rfl, if_pos rfl, same_eq K (mrg (mrg a b) c) (mrg a (mrg b c)) (by simp [maxLen]; omega) (by omega), Option.bind_some, mrg_assoc ha hb hc.1 hl hbc, decide_eq_true rfl, if_pos rfl, merges_awake]
      rfl
    · rw [merge_bad K (fun q => hc q.2) (by omega), Option.bind_some, if_neg (by decide), merges_awake]
      rfl
  · rw [merge_bad (K + 2) h (by omega), merge_bad (K + 2) (fun q => h ⟨q.2.1, q.1, q.2.2.symm⟩) (by omega), Option.bind_some, Option.bind_some, if_neg (by decide), tattlelaw06_TableMerges.j0, if_pos rfl, if_pos rfl, merges_awake]
    rfl
end Go.Proofs.Ytjamociekniepaa.Pure
