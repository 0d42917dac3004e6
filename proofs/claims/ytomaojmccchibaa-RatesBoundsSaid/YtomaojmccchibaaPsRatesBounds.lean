-- Written by a program of this session (wip/xprint/xrow.py): the statement about numbers and lists that is to be proved for RatesBounds.
import Derived.Test.YtomaojmccchibaaRatesBounds
namespace Go.Proofs.Ytomaojmccchibaa.X
open Go.RowKit
def paternosterlaw04_RatesBounds.PureS : Prop := ∀ (a0_0 : Int) (a0_1 : Int) (a0_2 : Int) (a0_3 : Int) (a0_4 : Int) (a0_5 : Int) (a1 : Int) (a2 : Int) (a3 : Int), ((Lit.int .i64 a0_0).wf = true ∧ (Lit.int .i64 a0_1).wf = true ∧ (Lit.int .i64 a0_2).wf = true ∧ (Lit.int .i64 a0_3).wf = true ∧ (Lit.int .i64 a0_4).wf = true ∧ (Lit.int .i64 a0_5).wf = true) → (Lit.int .i64 a1).wf = true → (Lit.int .i64 a2).wf = true → (Lit.int .i64 a3).wf = true → paternosterlaw04_RatesBounds.f a0_0 a0_1 a0_2 a0_3 a0_4 a0_5 a1 a2 a3 = some true
end Go.Proofs.Ytomaojmccchibaa.X
