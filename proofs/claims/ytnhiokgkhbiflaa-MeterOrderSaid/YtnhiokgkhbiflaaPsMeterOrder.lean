-- Written by a program of this session (wip/xprint/xrow.py): the statement about numbers and lists that is to be proved for MeterOrder.
import Derived.Test.YtnhiokgkhbiflaaMeterOrder
namespace Go.Proofs.Ytnhiokgkhbiflaa.X
open Go.RowKit
def paternosterlaw11_MeterOrder.PureS : Prop := ∀ (l0 : List Int) (l1 : List Int), (l0.length ≤ maxLen ∧ ∀ x1 ∈ l0, (Lit.int .i32 x1).wf = true) → (l1.length ≤ maxLen ∧ ∀ x2 ∈ l1, (Lit.int .i32 x2).wf = true) → paternosterlaw11_MeterOrder.f l0 l1 = some true
end Go.Proofs.Ytnhiokgkhbiflaa.X
