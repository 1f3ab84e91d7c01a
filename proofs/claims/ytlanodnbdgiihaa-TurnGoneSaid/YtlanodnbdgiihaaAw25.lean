/- The examples hold: tattlelaw02_awake answers true. -/
import Derived.Test.YtlanodnbdgiihaaFnx6
namespace Go.Proofs.Ytlanodnbdgiihaa.Fn
open Go.RowKit Go.Proofs.YtlanodnbdgiihaaW.PrintWords Go.Proofs.YtlanodnbdgiihaaW.PrintLast Go.Proofs.YtlanodnbdgiihaaW.PrintMore
attribute [local go_sem] max2_int min2_int max_two min_two max_three min_three max_four min_four   -- for this text's walks alone
set_option linter.unusedVariables false
set_option linter.unusedSimpArgs false

theorem tattlelaw02_awake.says : ∃ k, tattlelaw02_awake.f k = some true := ⟨60, by decide +kernel⟩
def tattlelaw02_awakeT.f : Option Bool := some true
theorem tattlelaw02_awakeT.calls (r : Bool) (w : World) (h : tattlelaw02_awakeT.f = some r) :
    Calls Try.prog 25 #[] w fun e w' => e = .returned (.bool r) ∧ Below w.heap.size w w' := by
  obtain rfl := Option.some.inj h
  obtain ⟨k, hk⟩ := tattlelaw02_awake.says
  exact tattlelaw02_awake.calls k true w ⟨rfl⟩ hk
end Go.Proofs.Ytlanodnbdgiihaa.Fn
