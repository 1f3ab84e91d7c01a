/- What the Go function TableParts comes to, as one statement over numbers and lists; no condition but the kinds' own ranges and the form's reach. -/
import Derived.Test.YtjamociekniepaaFnx20
import Derived.Test.YtjamociekniepaaFnxok
namespace Go.Proofs.Ytjamociekniepaa.Fn
open Go.RowKit Go.Proofs.YtjamociekniepaaW.PrintWords Go.Proofs.YtjamociekniepaaW.PrintLast Go.Proofs.YtjamociekniepaaW.PrintMore
attribute [local go_sem] max2_int min2_int max_two min_two max_three min_three max_four min_four   -- for this text's walks alone
set_option linter.unusedVariables false
set_option linter.unusedSimpArgs false

def tattlelaw06_TableParts.Pure : Prop := ∀ (l0 : List (S26)) (a1 : Int), (l0.length ≤ maxLen ∧ l0.length * 16 ≤ 140737488351232 ∧ ∀ x_ ∈ l0, ok26 x_) → ((Lit.int .u8 a1).wf = true) → ∃ k, tattlelaw06_TableParts.f k l0 a1 = some true
end Go.Proofs.Ytjamociekniepaa.Fn
