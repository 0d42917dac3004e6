-- Written by a program of this session (wip/xprint/xrow.py): the statement about numbers and lists that is to be proved for PhaseWays.
import Derived.Test.YtpnofbiflaahhaaDoorXx11
namespace Go.Proofs.YtpnofbiflaahhaaDoor.X
open Go.RowKit
def paternosterlaw21_PhaseWays.PureS : Prop := ∀ (l0 : List Int), (l0.length ≤ maxLen ∧ ∀ x1 ∈ l0, (Lit.int .i64 x1).wf = true) → ∃ k, paternosterlaw21_PhaseWays.f k l0 = some true
end Go.Proofs.YtpnofbiflaahhaaDoor.X
