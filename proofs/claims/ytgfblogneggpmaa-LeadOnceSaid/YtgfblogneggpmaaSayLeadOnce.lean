/- What the Go function LeadOnce comes to, as one statement over numbers and lists; no condition but the kinds' own ranges and the form's reach. -/
import Derived.Test.YtgfblogneggpmaaFnx37
import Derived.Test.YtgfblogneggpmaaFnxok
namespace Go.Proofs.Ytgfblogneggpmaa.Fn
open Go.RowKit Go.Proofs.YtgfblogneggpmaaW.PrintWords Go.Proofs.YtgfblogneggpmaaW.PrintLast Go.Proofs.YtgfblogneggpmaaW.PrintMore
attribute [local go_sem] max2_int min2_int max_two min_two max_three min_three max_four min_four   -- for this text's walks alone
set_option linter.unusedVariables false
set_option linter.unusedSimpArgs false

def tattlelaw18_LeadOnce.Pure : Prop := ∀ (a0 : Int) (l1 : List Int) (l2 : List Int), ((Lit.int .u8 a0).wf = true) → (l1.length ≤ maxLen ∧ l1.length * 1 ≤ 140737488351232 ∧ ∀ x_ ∈ l1, (Lit.int .u8 x_).wf = true) → (l2.length ≤ maxLen ∧ l2.length * 2 ≤ 140737488351232 ∧ ∀ x_ ∈ l2, (Lit.int .u16 x_).wf = true) → ∃ k, tattlelaw18_LeadOnce.f k a0 l1 l2 = some true
end Go.Proofs.Ytgfblogneggpmaa.Fn
