-- Written by a program of this session (wip/xprint/xrow.py): the statement about numbers and lists that is to be proved for PhaseTells.
import Derived.Test.YtpnofbiflaahhaaDoorXx9
namespace Go.Proofs.YtpnofbiflaahhaaDoor.X
open Go.RowKit
def paternosterlaw21_PhaseTells.PureS : Prop := ∀ (a0 : Int) (a1 : Int) (l2 : List Int) (l3 : List Int), (Lit.int .i64 a0).wf = true → (Lit.int .i64 a1).wf = true → (l2.length ≤ maxLen ∧ ∀ x1 ∈ l2, (Lit.int .i64 x1).wf = true) → (l3.length ≤ maxLen ∧ ∀ x2 ∈ l3, (Lit.int .i64 x2).wf = true) → ∃ k, paternosterlaw21_PhaseTells.f k a0 a1 l2 l3 = some true
end Go.Proofs.YtpnofbiflaahhaaDoor.X
