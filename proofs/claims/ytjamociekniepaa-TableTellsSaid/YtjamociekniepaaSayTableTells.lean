/- What the Go function TableTells comes to, as one statement over numbers and lists; no condition but the kinds' own ranges and the form's reach. -/
import Derived.Test.YtjamociekniepaaFnx35
import Derived.Test.YtjamociekniepaaFnxok
namespace Go.Proofs.Ytjamociekniepaa.Fn
open Go.RowKit Go.Proofs.YtjamociekniepaaW.PrintWords Go.Proofs.YtjamociekniepaaW.PrintLast Go.Proofs.YtjamociekniepaaW.PrintMore
attribute [local go_sem] max2_int min2_int max_two min_two max_three min_three max_four min_four   -- for this text's walks alone
set_option linter.unusedVariables false
set_option linter.unusedSimpArgs false

def tattlelaw06_TableTells.Pure : Prop := ∀ (l0_0 : List (S26)) (l0_1 : List (S26)) (a0_2 : Int) (a0_3 : Int) (a0_4 : Int), (l0_0.length ≤ maxLen ∧ l0_0.length * 16 ≤ 140737488351232 ∧ ∀ x_ ∈ l0_0, ok26 x_) → (l0_1.length ≤ maxLen ∧ l0_1.length * 16 ≤ 140737488351232 ∧ ∀ x_ ∈ l0_1, ok26 x_) → ((Lit.int .i64 a0_2).wf = true) → ((Lit.int .u64 a0_3).wf = true) → ((Lit.int .i64 a0_4).wf = true) → ∃ k, tattlelaw06_TableTells.f k l0_0 l0_1 a0_2 a0_3 a0_4 = some true
end Go.Proofs.Ytjamociekniepaa.Fn
