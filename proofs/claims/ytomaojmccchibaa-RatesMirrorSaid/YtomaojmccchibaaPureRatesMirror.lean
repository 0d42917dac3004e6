/- RatesMirror: a load as much above the weight upwards draws as one as much below it downwards. No condition. -/
import Derived.Test.YtomaojmccchibaaPsRatesMirror
import Derived.OpenShut
namespace Go.Proofs.Ytomaojmccchibaa.Pure
open Go.RowKit Go.Proofs.Ytomaojmccchibaa.X Go.Proofs.YtomaojmccchibaaW.PrintWords

theorem RatesMirror : paternosterlaw04_RatesMirror.PureS := by
  intro a0 a1 a2 a3 a4 a5 what load _ _ w2
  have := bounds_u8 w2
  unfold paternosterlaw04_RatesMirror.f
  rw [if_pos this]
end Go.Proofs.Ytomaojmccchibaa.Pure
