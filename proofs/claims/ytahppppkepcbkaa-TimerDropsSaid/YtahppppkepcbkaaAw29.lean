/- The examples hold: tattlelaw03_awake answers true. -/
import Derived.Test.YtahppppkepcbkaaFnx25
namespace Go.Proofs.Ytahppppkepcbkaa.Fn
open Go.RowKit Go.Proofs.YtahppppkepcbkaaW.PrintWords Go.Proofs.YtahppppkepcbkaaW.PrintLast Go.Proofs.YtahppppkepcbkaaW.PrintMore
attribute [local go_sem] max2_int min2_int max_two min_two max_three min_three max_four min_four   -- for this text's walks alone
set_option linter.unusedVariables false
set_option linter.unusedSimpArgs false

theorem tattlelaw03_awake.says : ∃ k, tattlelaw03_awake.f k = some true := ⟨60, by decide +kernel⟩
def tattlelaw03_awakeT.f : Option Bool := some true
theorem tattlelaw03_awakeT.calls (r : Bool) (w : World) (h : tattlelaw03_awakeT.f = some r) :
    Calls Try.prog 29 #[] w fun e w' => e = .returned (.bool r) ∧ Below w.heap.size w w' := by
  obtain rfl := Option.some.inj h
  obtain ⟨k, hk⟩ := tattlelaw03_awake.says
  exact tattlelaw03_awake.calls k true w ⟨rfl⟩ hk
end Go.Proofs.Ytahppppkepcbkaa.Fn
