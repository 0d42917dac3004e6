-- Written by a program of this session (wip/xprint/xrow.py): the statement about numbers and lists that is to be proved for FeedSteps.
import Derived.Test.YtangjedacimmcaaXx4
namespace Go.Proofs.Ytangjedacimmcaa.X
open Go.RowKit
def paternosterlaw10_FeedSteps.PureS : Prop := ∀ (a0_0 : Int) (a0_1 : Int) (a0_2 : Int) (a1_0 : Int) (a1_1 : Bool) (a1_2 : Int) (a2 : Bool) (a3 : Bool), ((Lit.int .i64 a0_0).wf = true ∧ (Lit.int .i64 a0_1).wf = true ∧ (Lit.int .i64 a0_2).wf = true) → ((Lit.int .i64 a1_0).wf = true ∧ True ∧ (Lit.int .i64 a1_2).wf = true) → True → True → ∃ k, paternosterlaw10_FeedSteps.f k a0_0 a0_1 a0_2 a1_0 a1_1 a1_2 a2 a3 = some true
end Go.Proofs.Ytangjedacimmcaa.X
