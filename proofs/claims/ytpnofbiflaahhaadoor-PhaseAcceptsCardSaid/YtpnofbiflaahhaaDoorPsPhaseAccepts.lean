-- Written by a program of this session (wip/xprint/xrow.py): the statement about numbers and lists that is to be proved for PhaseAccepts.
import Derived.Test.YtpnofbiflaahhaaDoorXx10
namespace Go.Proofs.YtpnofbiflaahhaaDoor.X
open Go.RowKit
def paternosterlaw21_PhaseAccepts.PureS : Prop := ∀ (l0 : List (List Int)) (a1 : Int), (l0.length ≤ maxLen ∧ ∀ x1 ∈ l0, (x1.length ≤ maxLen ∧ ∀ x2 ∈ x1, (Lit.int .i64 x2).wf = true)) → (Lit.int .u8 a1).wf = true → ∃ k, paternosterlaw21_PhaseAccepts.f k l0 a1 = some true
end Go.Proofs.YtpnofbiflaahhaaDoor.X
