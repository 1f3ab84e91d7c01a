/- The examples hold: tattlelaw18_awake answers true. -/
import Derived.Test.YtgfblogneggpmaaFnx28
namespace Go.Proofs.Ytgfblogneggpmaa.Fn
open Go.RowKit Go.Proofs.YtgfblogneggpmaaW.PrintWords Go.Proofs.YtgfblogneggpmaaW.PrintLast Go.Proofs.YtgfblogneggpmaaW.PrintMore
attribute [local go_sem] max2_int min2_int max_two min_two max_three min_three max_four min_four   -- for this text's walks alone
set_option linter.unusedVariables false
set_option linter.unusedSimpArgs false

theorem tattlelaw18_awake.says : ∃ k, tattlelaw18_awake.f k = some true := ⟨60, by decide +kernel⟩
def tattlelaw18_awakeT.f : Option Bool := some true
theorem tattlelaw18_awakeT.calls (r : Bool) (w : World) (h : tattlelaw18_awakeT.f = some r) :
    Calls Try.prog 24 #[] w fun e w' => e = .returned (.bool r) ∧ Below w.heap.size w w' := by
  obtain rfl := Option.some.inj h
  obtain ⟨k, hk⟩ := tattlelaw18_awake.says
  exact tattlelaw18_awake.calls k true w ⟨rfl⟩ hk
end Go.Proofs.Ytgfblogneggpmaa.Fn
