/- ConfBlocked: ticks below 0 count as none, those above a million as a million; more never takes less. No condition. -/
import Derived.Test.YtomaojmccchibaaPsConfBlocked
import Derived.Test.YtomaojmccchibaaConfBlockedPlain
namespace Go.Proofs.Ytomaojmccchibaa.Pure
open Go.RowKit Go.Proofs.Ytomaojmccchibaa.X Go.Proofs.YtomaojmccchibaaW.PrintWords

theorem ConfBlocked : paternosterlaw05_ConfBlocked.PureS := by
  intro l x1 x2 o x4 x5 x6 x7 x8 x9 x10 x11 x12 a b _ _ _
  exact ⟨400, blocked_true l x1 x2 o x4 x5 x6 x7 x8 x9 x10 x11 x12 a b⟩
end Go.Proofs.Ytomaojmccchibaa.Pure
