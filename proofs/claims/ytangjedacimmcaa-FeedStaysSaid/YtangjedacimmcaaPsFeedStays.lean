-- Written by a program of this session (wip/xprint/xrow.py): the statement about numbers and lists that is to be proved for FeedStays.
import Derived.Test.YtangjedacimmcaaXx9
namespace Go.Proofs.Ytangjedacimmcaa.X
open Go.RowKit
def paternosterlaw10_FeedStays.PureS : Prop := ∀ (l0 : List S25) (a1 : Bool) (a2 : Bool) (a3 : Bool), (l0.length ≤ maxLen ∧ ∀ x1 ∈ l0, ((Lit.int .i64 x1.f0).wf = true ∧ True ∧ (Lit.int .i64 x1.f2).wf = true)) → True → True → True → ∃ k, paternosterlaw10_FeedStays.f k l0 a1 a2 a3 = some true
end Go.Proofs.Ytangjedacimmcaa.X
