-- Written by a program of this session (wip/xprint/xrow.py): the statement about numbers and lists that is to be proved for MeterHigh.
import Derived.Test.YtnhiokgkhbiflaaMeterHigh
namespace Go.Proofs.Ytnhiokgkhbiflaa.X
open Go.RowKit
def paternosterlaw11_MeterHigh.PureS : Prop := ∀ (l0 : List (List Int)), (l0.length ≤ maxLen ∧ ∀ x1 ∈ l0, (x1.length ≤ maxLen ∧ ∀ x2 ∈ x1, (Lit.int .i64 x2).wf = true)) → paternosterlaw11_MeterHigh.f l0 = some true
end Go.Proofs.Ytnhiokgkhbiflaa.X
