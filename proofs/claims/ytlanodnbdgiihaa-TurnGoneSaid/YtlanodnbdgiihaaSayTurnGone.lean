/- What the Go function TurnGone comes to, as one statement over numbers and lists; no condition but the kinds' own ranges and the form's reach. -/
import Derived.Test.YtlanodnbdgiihaaFnx18
import Derived.Test.YtlanodnbdgiihaaFnxok
namespace Go.Proofs.Ytlanodnbdgiihaa.Fn
open Go.RowKit Go.Proofs.YtlanodnbdgiihaaW.PrintWords Go.Proofs.YtlanodnbdgiihaaW.PrintLast Go.Proofs.YtlanodnbdgiihaaW.PrintMore
attribute [local go_sem] max2_int min2_int max_two min_two max_three min_three max_four min_four   -- for this text's walks alone
set_option linter.unusedVariables false
set_option linter.unusedSimpArgs false

def tattlelaw08_TurnGone.Pure : Prop := ∀ (l0_0 : List Int) (a0_1 : Int) (a0_2 : ByteArray) (a0_3 : Int) (l0_4 : List Int) (a0_5 : Int) (a0_6 : Int), (l0_0.length ≤ maxLen ∧ l0_0.length * 8 ≤ 140737488351232 ∧ ∀ x_ ∈ l0_0, (Lit.int .i64 x_).wf = true) → ((Lit.int .i64 a0_1).wf = true) → (a0_2.size ≤ 140737488351232) → ((Lit.int .i64 a0_3).wf = true) → (l0_4.length ≤ maxLen ∧ l0_4.length * 8 ≤ 140737488351232 ∧ ∀ x_ ∈ l0_4, (Lit.int .i64 x_).wf = true) → ((Lit.int .u8 a0_5).wf = true) → ((Lit.int .u8 a0_6).wf = true) → ∃ k, tattlelaw08_TurnGone.f k l0_0 a0_1 a0_2 a0_3 l0_4 a0_5 a0_6 = some true
end Go.Proofs.Ytlanodnbdgiihaa.Fn
