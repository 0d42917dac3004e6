-- Written by a program of this session (wip/xprint/xrow.py): the statement about numbers and lists that is to be proved for TurnRounds.
import Derived.Test.YtbaklgemdljmeaaDoorXx10
namespace Go.Proofs.YtbaklgemdljmeaaDoor.X
open Go.RowKit
def paternosterlaw20_TurnRounds.PureS : Prop := ∀ (a0 : Int) (a1 : Int) (a2 : Int), (Lit.int .u64 a0).wf = true → (Lit.int .u8 a1).wf = true → (Lit.int .u16 a2).wf = true → ∃ k, paternosterlaw20_TurnRounds.f k a0 a1 a2 = some true
end Go.Proofs.YtbaklgemdljmeaaDoor.X
