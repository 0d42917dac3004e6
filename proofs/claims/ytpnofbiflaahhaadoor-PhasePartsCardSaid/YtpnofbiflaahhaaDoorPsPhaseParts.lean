-- Written by a program of this session (wip/xprint/xrow.py): the statement about numbers and lists that is to be proved for PhaseParts.
import Derived.Test.YtpnofbiflaahhaaDoorXx12
namespace Go.Proofs.YtpnofbiflaahhaaDoor.X
open Go.RowKit
def paternosterlaw21_PhaseParts.PureS : Prop := ∀ (l0 : List Int) (l1 : List Int), (l0.length ≤ maxLen ∧ ∀ x5 ∈ l0, (Lit.int .i64 x5).wf = true) → (l1.length ≤ maxLen ∧ ∀ x6 ∈ l1, (Lit.int .i64 x6).wf = true) → ∃ k, paternosterlaw21_PhaseParts.f k l0 l1 = some true
end Go.Proofs.YtpnofbiflaahhaaDoor.X
