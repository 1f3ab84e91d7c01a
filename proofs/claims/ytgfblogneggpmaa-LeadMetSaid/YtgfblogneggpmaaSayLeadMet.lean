/- What the Go function LeadMet comes to, as one statement over numbers and lists; no condition but the kinds' own ranges and the form's reach. -/
import Derived.Test.YtgfblogneggpmaaFnx30
import Derived.Test.YtgfblogneggpmaaFnxok
namespace Go.Proofs.Ytgfblogneggpmaa.Fn
open Go.RowKit Go.Proofs.YtgfblogneggpmaaW.PrintWords Go.Proofs.YtgfblogneggpmaaW.PrintLast Go.Proofs.YtgfblogneggpmaaW.PrintMore
attribute [local go_sem] max2_int min2_int max_two min_two max_three min_three max_four min_four   -- for this text's walks alone
set_option linter.unusedVariables false
set_option linter.unusedSimpArgs false

def tattlelaw18_LeadMet.Pure : Prop := ∀ (l0 : List Int) (a1 : Int), (l0.length ≤ maxLen ∧ l0.length * 1 ≤ 140737488351232 ∧ ∀ x_ ∈ l0, (Lit.int .u8 x_).wf = true) → ((Lit.int .i64 a1).wf = true) → ∃ k, tattlelaw18_LeadMet.f k l0 a1 = some true
end Go.Proofs.Ytgfblogneggpmaa.Fn
