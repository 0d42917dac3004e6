/- RatesGrow: upwards a heavier load draws no less, and gives no more; downwards it draws no more, and gives no less. No condition. -/
import Derived.Test.YtomaojmccchibaaPsRatesGrow
import Derived.OpenShut
namespace Go.Proofs.Ytomaojmccchibaa.Pure
open Go.RowKit Go.Proofs.Ytomaojmccchibaa.X Go.Proofs.YtomaojmccchibaaW.PrintWords

theorem RatesGrow : paternosterlaw04_RatesGrow.PureS := by
  intro a0 a1 a2 a3 a4 a5 what load dir _ _ w2 _
  have := bounds_u8 w2
  unfold paternosterlaw04_RatesGrow.f
  rw [if_pos this]
end Go.Proofs.Ytomaojmccchibaa.Pure
