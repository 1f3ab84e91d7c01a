/- What the Go function TableBehind comes to, as one statement over numbers and lists; no condition but the kinds' own ranges and the form's reach. -/
import Derived.Test.YtjamociekniepaaFnx26
import Derived.Test.YtjamociekniepaaFnxok
namespace Go.Proofs.Ytjamociekniepaa.Fn
open Go.RowKit Go.Proofs.YtjamociekniepaaW.PrintWords Go.Proofs.YtjamociekniepaaW.PrintLast Go.Proofs.YtjamociekniepaaW.PrintMore
attribute [local go_sem] max2_int min2_int max_two min_two max_three min_three max_four min_four   -- for this text's walks alone
set_option linter.unusedVariables false
set_option linter.unusedSimpArgs false

def tattlelaw06_TableBehind.Pure : Prop := ∀ (l0 : List (S26)) (l1 : List (S26)), (l0.length ≤ maxLen ∧ l0.length * 16 ≤ 140737488351232 ∧ ∀ x_ ∈ l0, ok26 x_) → (l1.length ≤ maxLen ∧ l1.length * 16 ≤ 140737488351232 ∧ ∀ x_ ∈ l1, ok26 x_) → ∃ k, tattlelaw06_TableBehind.f k l0 l1 = some true
end Go.Proofs.Ytjamociekniepaa.Fn
