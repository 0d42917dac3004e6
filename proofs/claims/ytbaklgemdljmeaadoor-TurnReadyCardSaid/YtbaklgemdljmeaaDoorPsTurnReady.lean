-- Written by a program of this session (wip/xprint/xrow.py): the statement about numbers and lists that is to be proved for TurnReady.
import Derived.Test.YtbaklgemdljmeaaDoorXx9
namespace Go.Proofs.YtbaklgemdljmeaaDoor.X
open Go.RowKit
def paternosterlaw20_TurnReady.PureS : Prop := ∀ (l0 : List S26) (a1 : Int), (l0.length ≤ maxLen ∧ ∀ x1 ∈ l0, ((Lit.int .u64 x1.f0).wf = true ∧ True ∧ True ∧ (Lit.int .i64 x1.f3).wf = true)) → (Lit.int .u8 a1).wf = true → ∃ k, paternosterlaw20_TurnReady.f k l0 a1 = some true
end Go.Proofs.YtbaklgemdljmeaaDoor.X
