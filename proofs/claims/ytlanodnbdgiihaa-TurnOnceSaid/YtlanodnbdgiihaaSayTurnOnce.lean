/- What the Go function TurnOnce comes to, as one statement over numbers and lists; no condition but the kinds' own ranges and the form's reach. -/
import Derived.Test.YtlanodnbdgiihaaFnx17
import Derived.Test.YtlanodnbdgiihaaFnxok
namespace Go.Proofs.Ytlanodnbdgiihaa.Fn
open Go.RowKit Go.Proofs.YtlanodnbdgiihaaW.PrintWords Go.Proofs.YtlanodnbdgiihaaW.PrintLast Go.Proofs.YtlanodnbdgiihaaW.PrintMore
attribute [local go_sem] max2_int min2_int max_two min_two max_three min_three max_four min_four   -- for this text's walks alone
set_option linter.unusedVariables false
set_option linter.unusedSimpArgs false

def tattlelaw08_TurnOnce.Pure : Prop := ∀ (a0_0 : ByteArray) (a0_1 : Int) (l1 : List Int), (a0_0.size ≤ 140737488351232) → ((Lit.int .i64 a0_1).wf = true) → (l1.length ≤ maxLen ∧ l1.length * 8 ≤ 140737488351232 ∧ ∀ x_ ∈ l1, (Lit.int .i64 x_).wf = true) → ∃ k, tattlelaw08_TurnOnce.f k a0_0 a0_1 l1 = some true
end Go.Proofs.Ytlanodnbdgiihaa.Fn
