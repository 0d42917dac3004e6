-- Written by a program of this session (wip/xprint/xrow.py): the statement about numbers and lists that is to be proved for FeedGoes.
import Derived.Test.YtangjedacimmcaaXx7
namespace Go.Proofs.Ytangjedacimmcaa.X
open Go.RowKit
def paternosterlaw10_FeedGoes.PureS : Prop := ∀ (l0 : List S25) (a1 : Bool), (l0.length ≤ maxLen ∧ ∀ x1 ∈ l0, ((Lit.int .i64 x1.f0).wf = true ∧ True ∧ (Lit.int .i64 x1.f2).wf = true)) → True → ∃ k, paternosterlaw10_FeedGoes.f k l0 a1 = some true
end Go.Proofs.Ytangjedacimmcaa.X
