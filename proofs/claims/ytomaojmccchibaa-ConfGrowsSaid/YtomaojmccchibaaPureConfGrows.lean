/- ConfGrows: a group of another car, or another floor, takes no less time, and draws no less; more that is blocked takes as much more. No condition. -/
import Derived.Test.YtomaojmccchibaaPsConfGrows
import Derived.OpenShut
namespace Go.Proofs.Ytomaojmccchibaa.Pure
open Go.RowKit Go.Proofs.Ytomaojmccchibaa.X Go.Proofs.YtomaojmccchibaaW.PrintWords

theorem ConfGrows : paternosterlaw05_ConfGrows.PureS := by
  intro l x1 x2 o x4 x5 x6 x7 x8 x9 x10 x11 x12 a1 _ ha
  have := bounds_u16 ha
  unfold paternosterlaw05_ConfGrows.f
  rw [if_pos (by omega)]
end Go.Proofs.Ytomaojmccchibaa.Pure
