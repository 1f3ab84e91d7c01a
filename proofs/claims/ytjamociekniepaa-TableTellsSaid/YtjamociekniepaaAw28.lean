/- The examples hold: tattlelaw06_awake answers true. -/
import Derived.Test.YtjamociekniepaaFnx18
namespace Go.Proofs.Ytjamociekniepaa.Fn
open Go.RowKit Go.Proofs.YtjamociekniepaaW.PrintWords Go.Proofs.YtjamociekniepaaW.PrintLast Go.Proofs.YtjamociekniepaaW.PrintMore
attribute [local go_sem] max2_int min2_int max_two min_two max_three min_three max_four min_four   -- for this text's walks alone
set_option linter.unusedVariables false
set_option linter.unusedSimpArgs false

theorem tattlelaw06_awake.says : ∃ k, tattlelaw06_awake.f k = some true := ⟨60, by decide +kernel⟩
def tattlelaw06_awakeT.f : Option Bool := some true
theorem tattlelaw06_awakeT.calls (r : Bool) (w : World) (h : tattlelaw06_awakeT.f = some r) :
    Calls Try.prog 28 #[] w fun e w' => e = .returned (.bool r) ∧ Below w.heap.size w w' := by
  obtain rfl := Option.some.inj h
  obtain ⟨k, hk⟩ := tattlelaw06_awake.says
  exact tattlelaw06_awake.calls k true w ⟨rfl⟩ hk
end Go.Proofs.Ytjamociekniepaa.Fn
