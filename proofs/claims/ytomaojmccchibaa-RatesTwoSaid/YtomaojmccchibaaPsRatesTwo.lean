-- Written by a program of this session (wip/xprint/xrow.py): the statement about numbers and lists that is to be proved for RatesTwo.
import Derived.Test.YtomaojmccchibaaRatesTwo
namespace Go.Proofs.Ytomaojmccchibaa.X
open Go.RowKit
def paternosterlaw04_RatesTwo.PureS : Prop := ∀ (a0_0 : Int) (a0_1 : Int) (a0_2 : Int) (a0_3 : Int) (a0_4 : Int) (a0_5 : Int) (l1 : List Int) (a2 : Int), ((Lit.int .i64 a0_0).wf = true ∧ (Lit.int .i64 a0_1).wf = true ∧ (Lit.int .i64 a0_2).wf = true ∧ (Lit.int .i64 a0_3).wf = true ∧ (Lit.int .i64 a0_4).wf = true ∧ (Lit.int .i64 a0_5).wf = true) → (l1.length ≤ maxLen ∧ ∀ x1 ∈ l1, (Lit.int .i64 x1).wf = true) → (Lit.int .i64 a2).wf = true → paternosterlaw04_RatesTwo.f a0_0 a0_1 a0_2 a0_3 a0_4 a0_5 l1 a2 = some true
end Go.Proofs.Ytomaojmccchibaa.X
