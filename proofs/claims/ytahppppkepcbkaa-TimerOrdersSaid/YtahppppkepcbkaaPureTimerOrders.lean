/- TimerOrders, over lists alone: the printed function answers true at every input. -/
import Derived.Test.YtahppppkepcbkaaAw29
import Derived.Test.YtahppppkepcbkaaFnx0
import Derived.Test.YtahppppkepcbkaaFnx22
import Derived.Test.YtahppppkepcbkaaFnx26
import Derived.Test.YtahppppkepcbkaaSayTimerOrders
import Derived.Test.YtahppppkepcbkaaTm2
namespace Go.Proofs.Ytahppppkepcbkaa.Pure
open Go.RowKit Go.Proofs.Ytahppppkepcbkaa.Fn Go.Proofs.YtahppppkepcbkaaW.PrintWords Go.Proofs.YtahppppkepcbkaaW.PrintMore Go.Proofs.Ytahppppkepcbkaa.Tm
set_option linter.unusedVariables false
set_option linter.unusedSimpArgs false
theorem orders_awake : tattlelaw03_awakeT.f = some true := rfl
theorem add_nil (l : List S52) (h : l.length ≤ 256) : timer_Add.f [] l = some (isort l, 0) := by
  unfold timer_Add.f
  rw [if_neg (by omega), show okl [] = true from rfl, if_pos rfl, if_neg (by simp; omega), List.nil_append]
theorem orders_j1 (K : Nat) (hK : 20 ≤ K) (p : List S52) (hp : p.length = 3) (hs : srt p) : tattlelaw03_TimerOrders.j1 (K + 1) p false = some true := by
  have h01 : lt (g p 1) (g p 0) = false := by
    cases hc : lt (g p 1) (g p 0) with
    | false => rfl
    | true => exact absurd ((lt_iff _ _).1 hc) (srt_at hs 0 1 (by omega) (by omega))
  have h12 : lt (g p 2) (g p 1) = false := by
    cases hc : lt (g p 2) (g p 1) with
    | false => rfl
    | true => exact absurd ((lt_iff _ _).1 hc) (srt_at hs 1 2 (by omega) (by omega))
  have e1 := tless_any K (g p 1) (g p 0) (by omega)
  have e2 := tless_any K (g p 2) (g p 1) (by omega)
  have r0 : rd_T52 p 0 = g p 0 := rd_g p 0
  have r1 : rd_T52 p 1 = g p 1 := rd_g p 1
  have r2 : rd_T52 p 2 = g p 2 := rd_g p 2
  rw [tattlelaw03_TimerOrders.j1, if_neg (by decide), if_pos (by omega), if_pos (by omega), r0, r1, r2, e1, Option.bind_some, h01, if_neg (by decide), if_pos (by omega), e2, Option.bind_some, h12, if_neg (by decide), orders_awake]
  rfl
theorem eqb52 (a b : S52) : ((a.f0 == b.f0) && ((a.f1 == b.f1) && ((a.f2 == b.f2) && (a.f3 == b.f3)))) = decide (a = b) := by
  by_cases q : a = b
  · rw [q, decide_eq_true rfl]; simp
  · rw [decide_eq_false q, Bool.eq_false_iff]
    intro q'
    rw [Bool.and_eq_true, Bool.and_eq_true, Bool.and_eq_true, beq_iff_eq, beq_iff_eq, beq_iff_eq, beq_iff_eq] at q'
    exact q (ext52 q'.1 q'.2.1 q'.2.2.1 q'.2.2.2)
theorem neb52 (a b : S52) : (!(a.f0 == b.f0) || (!(a.f1 == b.f1) || (!(a.f2 == b.f2) || (!(a.f3 == b.f3))))) = !decide (a = b) := by
  rw [← eqb52]
  cases (a.f0 == b.f0) <;> cases (a.f1 == b.f1) <;> cases (a.f2 == b.f2) <;> cases (a.f3 == b.f3) <;> rfl
theorem lt_eq_false {a b : S52} (h : ¬ tlt a b) : lt a b = false := by
  cases hc : lt a b with
  | false => rfl
  | true => exact absurd ((lt_iff _ _).1 hc) h
theorem orders_j0 (K : Nat) (hK : 20 ≤ K) (p : List S52) (hp : p.length = 3) (hs : srt p) (a b c : S52) :
    tattlelaw03_TimerOrders.j0 (K + 2) (lt a b) (lt b a) p false a.f0 a.f1 a.f2 a.f3 b.f0 b.f1 b.f2 b.f3 c.f0 c.f1 c.f2 c.f3 = some true := by
  have hj := orders_j1 K hK p hp hs
  rw [tattlelaw03_TimerOrders.j0, if_neg (by decide)]
  rw [eqb52, neb52, tless_any (K + 1) b c (by omega), tless_any (K + 1) a c (by omega)]
  rcases lt_tri a b with q | q | q
  · rw [(lt_iff a b).2 q, if_pos rfl, lt_eq_false (lt_asymm q), if_neg (by decide), decide_eq_false (fun e => by rw [e] at q; exact lt_irr _ q), if_neg (by decide), Option.bind_some]
    cases hbc : lt b c with
    | true =>
      rw [if_pos rfl, Option.bind_some, (lt_iff a c).2 (lt_trans q ((lt_iff _ _).1 hbc))]
      exact hj
    | false =>
      rw [if_neg (by decide)]
      exact hj
  · subst q
    rw [lt_eq_false (lt_irr a), if_neg (by decide), if_neg (by decide), decide_eq_true rfl, if_neg (by decide)]
    exact hj
  · rw [lt_eq_false (lt_asymm q), if_neg (by decide), (lt_iff b a).2 q, if_pos rfl, decide_eq_false (fun e => by rw [e] at q; exact lt_irr _ q), if_neg (by decide)]
    exact hj
theorem TimerOrders : tattlelaw03_TimerOrders.Pure := by
  intro a0 a1 a2 a3 b0 b1 b2 b3 c0 c1 c2 c3 _ _ _ _ _ _ _ _ _ _ _ _
  obtain ⟨K, hK⟩ : ∃ K : Nat, 800 ≤ K := ⟨800, Nat.le_refl _⟩
  refine ⟨K + 2, ?_⟩
  have hl := isort_perm [(⟨a0, a1, a2, a3⟩ : S52), ⟨b0, b1, b2, b3⟩, ⟨c0, c1, c2, c3⟩]
  have hlen := hl.length_eq
  have hpe : isort [(⟨c0, c1, c2, c3⟩ : S52), ⟨b0, b1, b2, b3⟩, ⟨a0, a1, a2, a3⟩] = isort [(⟨a0, a1, a2, a3⟩ : S52), ⟨b0, b1, b2, b3⟩, ⟨c0, c1, c2, c3⟩] := by
    have := isort_eq (List.reverse_perm [(⟨a0, a1, a2, a3⟩ : S52), ⟨b0, b1, b2, b3⟩, ⟨c0, c1, c2, c3⟩])
    exact this
  have hs := isort_srt [(⟨a0, a1, a2, a3⟩ : S52), ⟨b0, b1, b2, b3⟩, ⟨c0, c1, c2, c3⟩]
  have hj := orders_j0 K (by omega) _ (by rw [hlen]; rfl) hs ⟨a0, a1, a2, a3⟩ ⟨b0, b1, b2, b3⟩ ⟨c0, c1, c2, c3⟩
  have e1 : timer_Less.f (K + 2) a0 a1 a2 a3 b0 b1 b2 b3 = some (lt ⟨a0, a1, a2, a3⟩ ⟨b0, b1, b2, b3⟩) := tless_any (K + 2) ⟨a0, a1, a2, a3⟩ ⟨b0, b1, b2, b3⟩ (by omega)
  have e2 : timer_Less.f (K + 2) b0 b1 b2 b3 a0 a1 a2 a3 = some (lt ⟨b0, b1, b2, b3⟩ ⟨a0, a1, a2, a3⟩) := tless_any (K + 2) ⟨b0, b1, b2, b3⟩ ⟨a0, a1, a2, a3⟩ (by omega)
  unfold tattlelaw03_TimerOrders.f
  rw [e1, e2, Option.bind_some, Option.bind_some, add_nil _ (by simp), add_nil _ (by simp), Option.bind_some, Option.bind_some, hpe, if_pos rfl, if_pos rfl]
  generalize isort [(⟨a0, a1, a2, a3⟩ : S52), ⟨b0, b1, b2, b3⟩, ⟨c0, c1, c2, c3⟩] = p at *
  have hp3 : p.length = 3 := hlen
  rw [tsame_eq (K + 2) p p (by omega) (by omega), Option.bind_some, decide_eq_true rfl, if_pos rfl, show ((p.length : Int) != 3) = false by rw [hp3]; rfl]
  exact hj
end Go.Proofs.Ytahppppkepcbkaa.Pure
