/- What the Go function TimerTakes comes to, as one statement over numbers and lists; no condition but the kinds' own ranges and the form's reach. -/
import Derived.Test.YtahppppkepcbkaaFnx34
import Derived.Test.YtahppppkepcbkaaFnxok
namespace Go.Proofs.Ytahppppkepcbkaa.Fn
open Go.RowKit Go.Proofs.YtahppppkepcbkaaW.PrintWords Go.Proofs.YtahppppkepcbkaaW.PrintLast Go.Proofs.YtahppppkepcbkaaW.PrintMore
attribute [local go_sem] max2_int min2_int max_two min_two max_three min_three max_four min_four   -- for this text's walks alone
set_option linter.unusedVariables false
set_option linter.unusedSimpArgs false

def tattlelaw03_TimerTakes.Pure : Prop := ∀ (l0_0 : List (S52)) (a0_1 : Int) (a0_2 : Int) (a0_3 : Int), (l0_0.length ≤ maxLen ∧ l0_0.length * 32 ≤ 140737488351232 ∧ ∀ x_ ∈ l0_0, ok52 x_) → ((Lit.int .i64 a0_1).wf = true) → ((Lit.int .i64 a0_2).wf = true) → ((Lit.int .i64 a0_3).wf = true) → ∃ k, tattlelaw03_TimerTakes.f k l0_0 a0_1 a0_2 a0_3 = some true
end Go.Proofs.Ytahppppkepcbkaa.Fn
