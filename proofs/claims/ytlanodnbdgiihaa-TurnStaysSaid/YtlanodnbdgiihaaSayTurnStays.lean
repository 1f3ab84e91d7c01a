/- What the Go function TurnStays comes to, as one statement over numbers and lists; no condition but the kinds' own ranges and the form's reach. -/
import Derived.Test.YtlanodnbdgiihaaFnx20
import Derived.Test.YtlanodnbdgiihaaFnxok
namespace Go.Proofs.Ytlanodnbdgiihaa.Fn
open Go.RowKit Go.Proofs.YtlanodnbdgiihaaW.PrintWords Go.Proofs.YtlanodnbdgiihaaW.PrintLast Go.Proofs.YtlanodnbdgiihaaW.PrintMore
attribute [local go_sem] max2_int min2_int max_two min_two max_three min_three max_four min_four   -- for this text's walks alone
set_option linter.unusedVariables false
set_option linter.unusedSimpArgs false

def tattlelaw08_TurnStays.Pure : Prop := ∀ (l0_0 : List Int) (a0_1 : Int) (a1_0 : ByteArray) (a1_1 : Int) (l2 : List Int), (l0_0.length ≤ maxLen ∧ l0_0.length * 8 ≤ 140737488351232 ∧ ∀ x_ ∈ l0_0, (Lit.int .i64 x_).wf = true) → ((Lit.int .i64 a0_1).wf = true) → (a1_0.size ≤ 140737488351232) → ((Lit.int .i64 a1_1).wf = true) → (l2.length ≤ maxLen ∧ l2.length * 8 ≤ 140737488351232 ∧ ∀ x_ ∈ l2, (Lit.int .i64 x_).wf = true) → ∃ k, tattlelaw08_TurnStays.f k l0_0 a0_1 a1_0 a1_1 l2 = some true
end Go.Proofs.Ytlanodnbdgiihaa.Fn
