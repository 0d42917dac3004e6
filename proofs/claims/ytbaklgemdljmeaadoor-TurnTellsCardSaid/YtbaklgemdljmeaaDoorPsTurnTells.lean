-- Written by a program of this session (wip/xprint/xrow.py): the statement about numbers and lists that is to be proved for TurnTells.
import Derived.Test.YtbaklgemdljmeaaDoorXx8
namespace Go.Proofs.YtbaklgemdljmeaaDoor.X
open Go.RowKit
def paternosterlaw20_TurnTells.PureS : Prop := ∀ (a0_0 : Int) (a0_1 : Int) (a1_0 : Int) (a1_1 : Bool) (a1_2 : Bool) (a1_3 : Int) (a2 : Int), ((Lit.int .i64 a0_0).wf = true ∧ (Lit.int .i64 a0_1).wf = true) → ((Lit.int .u64 a1_0).wf = true ∧ True ∧ True ∧ (Lit.int .i64 a1_3).wf = true) → (Lit.int .i64 a2).wf = true → ∃ k, paternosterlaw20_TurnTells.f k a0_0 a0_1 a1_0 a1_1 a1_2 a1_3 a2 = some true
end Go.Proofs.YtbaklgemdljmeaaDoor.X
