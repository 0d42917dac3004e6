-- Written by a program of this session (wip/xprint/xrow.py): the statement about numbers and lists that is to be proved for PhaseSame.
import Derived.Test.YtpnofbiflaahhaaDoorPhaseSame
namespace Go.Proofs.YtpnofbiflaahhaaDoor.X
open Go.RowKit
def paternosterlaw21_PhaseSame.PureS : Prop := ∀ (l0 : List Int) (a1 : Int), (l0.length ≤ maxLen ∧ ∀ x1 ∈ l0, (Lit.int .i64 x1).wf = true) → (Lit.int .u8 a1).wf = true → ∃ k, paternosterlaw21_PhaseSame.f k l0 a1 = some true
end Go.Proofs.YtpnofbiflaahhaaDoor.X
