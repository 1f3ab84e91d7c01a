/- What the Go function TableOrders comes to, as one statement over numbers and lists; no condition but the kinds' own ranges and the form's reach. -/
import Derived.Test.YtjamociekniepaaFnx19
import Derived.Test.YtjamociekniepaaFnxok
namespace Go.Proofs.Ytjamociekniepaa.Fn
open Go.RowKit Go.Proofs.YtjamociekniepaaW.PrintWords Go.Proofs.YtjamociekniepaaW.PrintLast Go.Proofs.YtjamociekniepaaW.PrintMore
attribute [local go_sem] max2_int min2_int max_two min_two max_three min_three max_four min_four   -- for this text's walks alone
set_option linter.unusedVariables false
set_option linter.unusedSimpArgs false

def tattlelaw06_TableOrders.Pure : Prop := ∀ (l0_0 : List (S26)) (l0_1 : List (S26)) (l0_2 : List Int) (l0_3 : List Int), (l0_0.length ≤ maxLen ∧ l0_0.length * 16 ≤ 140737488351232 ∧ ∀ x_ ∈ l0_0, ok26 x_) → (l0_1.length ≤ maxLen ∧ l0_1.length * 16 ≤ 140737488351232 ∧ ∀ x_ ∈ l0_1, ok26 x_) → (l0_2.length ≤ maxLen ∧ l0_2.length * 1 ≤ 140737488351232 ∧ ∀ x_ ∈ l0_2, (Lit.int .u8 x_).wf = true) → (l0_3.length ≤ maxLen ∧ l0_3.length * 1 ≤ 140737488351232 ∧ ∀ x_ ∈ l0_3, (Lit.int .u8 x_).wf = true) → ∃ k, tattlelaw06_TableOrders.f k l0_0 l0_1 l0_2 l0_3 = some true
end Go.Proofs.Ytjamociekniepaa.Fn
