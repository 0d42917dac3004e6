-- Written by a program of this session (wip/xprint/xrow.py): the statement about numbers and lists that is to be proved for TurnHand.
import Derived.Test.YtbaklgemdljmeaaDoorXx11
namespace Go.Proofs.YtbaklgemdljmeaaDoor.X
open Go.RowKit
def paternosterlaw20_TurnHand.PureS : Prop := ∀ (a0 : Int) (a1 : Int) (a2 : Int) (l3 : List Bool), (Lit.int .u64 a0).wf = true → (Lit.int .u8 a1).wf = true → (Lit.int .u8 a2).wf = true → (l3.length ≤ maxLen ∧ ∀ x2 ∈ l3, True) → ∃ k, paternosterlaw20_TurnHand.f k a0 a1 a2 l3 = some true
end Go.Proofs.YtbaklgemdljmeaaDoor.X
