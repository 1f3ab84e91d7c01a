/- The examples hold: tattlelaw08_awake answers true. -/
import Derived.Test.YtlanodnbdgiihaaFnx15
namespace Go.Proofs.Ytlanodnbdgiihaa.Fn
open Go.RowKit Go.Proofs.YtlanodnbdgiihaaW.PrintWords Go.Proofs.YtlanodnbdgiihaaW.PrintLast Go.Proofs.YtlanodnbdgiihaaW.PrintMore
attribute [local go_sem] max2_int min2_int max_two min_two max_three min_three max_four min_four   -- for this text's walks alone
set_option linter.unusedVariables false
set_option linter.unusedSimpArgs false

theorem tattlelaw08_awake.says : ∃ k, tattlelaw08_awake.f k = some true := ⟨60, by decide +kernel⟩
def tattlelaw08_awakeT.f : Option Bool := some true
theorem tattlelaw08_awakeT.calls (r : Bool) (w : World) (h : tattlelaw08_awakeT.f = some r) :
    Calls Try.prog 30 #[] w fun e w' => e = .returned (.bool r) ∧ Below w.heap.size w w' := by
  obtain rfl := Option.some.inj h
  obtain ⟨k, hk⟩ := tattlelaw08_awake.says
  exact tattlelaw08_awake.calls k true w ⟨rfl⟩ hk
end Go.Proofs.Ytlanodnbdgiihaa.Fn
