/- ClockGuards, over numbers alone: the printed function answers true at every input. -/
import Derived.Test.YtahppppkepcbkaaAw16
import Derived.Test.YtahppppkepcbkaaFnx6
import Derived.Test.YtahppppkepcbkaaSayClockGuards
import Derived.Test.YtahppppkepcbkaaGua
namespace Go.Proofs.Ytahppppkepcbkaa.Pure
open Go.RowKit Go.Proofs.Ytahppppkepcbkaa.Fn Go.Proofs.YtahppppkepcbkaaW.PrintWords Go.Proofs.YtahppppkepcbkaaW.PrintMore Go.Proofs.Ytahppppkepcbkaa.Gua
theorem ClockGuards : tattlelaw04_ClockGuards.Pure := by
  intro t d r ht hd hr
  have haw : tattlelaw04_awakeT.f = some true := rfl
  refine ⟨1, ?_⟩
  have hbad : ∀ g e, g = 0 → e = 1 → tattlelaw04_ClockGuards.j0 1 t d r g e true = some true := by
    intro g e hg he
    rw [tattlelaw04_ClockGuards.j0, if_pos rfl, if_pos hg, if_pos he, haw]
    rfl
  unfold tattlelaw04_ClockGuards.f
  rw [guard_eq, Option.bind_some, rbound_eq, Option.bind_some]
  by_cases h : tok t ∧ bnd d r
  · obtain ⟨g1, g2, g3⟩ := gua_spec h.1 h.2
    have h1 := h.1.1
    have h2 := h.1.2
    simp only [if_pos h]
    rw [if_neg (by omega), if_neg (by omega), decide_eq_true h.2, tattlelaw04_ClockGuards.j0, if_neg (by decide), if_pos rfl, if_pos (by omega), if_pos g1, fits_eq h.2 _ (by omega), Option.bind_some,
      show wrap64 (((gua t d r : Nat) : Int) + 1) = ((gua t d r + 1 : Nat) : Int) by rw [w64_id _ (by omega) (by omega)]; omega, fits_eq h.2 _ (by omega), Option.bind_some]
    rw [decide_eq_true (p := gua t d r = 0 ∨ many t d r (gua t d r - 1) = false), if_pos rfl, decide_eq_false (p := gua t d r + 1 = 0 ∨ many t d r (gua t d r + 1 - 1) = false), if_neg (by decide), haw]
    · rfl
    · rw [Nat.add_sub_cancel, g2]
      simp
    · by_cases e : gua t d r = 0
      · exact .inl e
      · exact .inr (g3 _ (by omega))
  · simp only [if_neg h]
    by_cases h1 : t < 0
    · rw [if_pos h1]
      exact hbad _ _ rfl rfl
    · rw [if_neg h1]
      by_cases h2 : t > 1099511627776
      · rw [if_pos h2]
        exact hbad _ _ rfl rfl
      · rw [if_neg h2, decide_eq_false (fun q => h ⟨⟨by omega, by omega⟩, q⟩)]
        exact hbad _ _ rfl rfl
end Go.Proofs.Ytahppppkepcbkaa.Pure
