/- What the Go function VoteWaits comes to, as one statement over numbers and lists; no condition but the kinds' own ranges and the form's reach. -/
import Derived.Test.YtgfblogneggpmaaFnx11
import Derived.Test.YtgfblogneggpmaaFnxok
namespace Go.Proofs.Ytgfblogneggpmaa.Fn
open Go.RowKit Go.Proofs.YtgfblogneggpmaaW.PrintWords Go.Proofs.YtgfblogneggpmaaW.PrintLast Go.Proofs.YtgfblogneggpmaaW.PrintMore
attribute [local go_sem] max2_int min2_int max_two min_two max_three min_three max_four min_four   -- for this text's walks alone
set_option linter.unusedVariables false
set_option linter.unusedSimpArgs false

def tattlelaw17_VoteWaits.Pure : Prop := ∀ (a0_0 : Int) (a0_1 : Int) (a0_2 : Int) (l1 : List (S36)), ((Lit.int .i64 a0_0).wf = true) → ((Lit.int .i64 a0_1).wf = true) → ((Lit.int .i64 a0_2).wf = true) → (l1.length ≤ maxLen ∧ l1.length * 4 ≤ 140737488351232 ∧ ∀ x_ ∈ l1, ok36 x_) → ∃ k, tattlelaw17_VoteWaits.f k a0_0 a0_1 a0_2 l1 = some true
end Go.Proofs.Ytgfblogneggpmaa.Fn
