/- RatesBounds: nothing that is done on a way draws more than the way's peak, and no peak is above the most; not both ways give back, and what gives back doesn't pull. No condition. -/
import Derived.Test.YtomaojmccchibaaPsRatesBounds
import Derived.OpenShut
namespace Go.Proofs.Ytomaojmccchibaa.Pure
open Go.RowKit Go.Proofs.Ytomaojmccchibaa.X Go.Proofs.YtomaojmccchibaaW.PrintWords

theorem RatesBounds : paternosterlaw04_RatesBounds.PureS := by
  intro a0 a1 a2 a3 a4 a5 what load dir _ _ _ w3
  have := bounds_i64 w3
  unfold paternosterlaw04_RatesBounds.f
  rw [if_pos this]
end Go.Proofs.Ytomaojmccchibaa.Pure
