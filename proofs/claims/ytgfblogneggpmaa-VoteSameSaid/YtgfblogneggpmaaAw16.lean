/- The examples hold: tattlelaw17_awake answers true. -/
import Derived.Test.YtgfblogneggpmaaFnx7
namespace Go.Proofs.Ytgfblogneggpmaa.Fn
open Go.RowKit Go.Proofs.YtgfblogneggpmaaW.PrintWords Go.Proofs.YtgfblogneggpmaaW.PrintLast Go.Proofs.YtgfblogneggpmaaW.PrintMore
attribute [local go_sem] max2_int min2_int max_two min_two max_three min_three max_four min_four   -- for this text's walks alone
set_option linter.unusedVariables false
set_option linter.unusedSimpArgs false

theorem tattlelaw17_awake.says : tattlelaw17_awake.f = some true := by decide +kernel
def tattlelaw17_awakeT.f : Option Bool := some true
theorem tattlelaw17_awakeT.calls (r : Bool) (w : World) (h : tattlelaw17_awakeT.f = some r) :
    Calls Try.prog 16 #[] w fun e w' => e = .returned (.bool r) ∧ Below w.heap.size w w' := by
  obtain rfl := Option.some.inj h
  exact tattlelaw17_awake.calls true w ⟨rfl⟩ tattlelaw17_awake.says
end Go.Proofs.Ytgfblogneggpmaa.Fn
