/- RatesLoads: a load beyond what may be counts as the nearest one that may; ways count by their signs. No condition. -/
import Derived.Test.YtomaojmccchibaaPsRatesLoads
import Derived.OpenShut
namespace Go.Proofs.Ytomaojmccchibaa.Pure
open Go.RowKit Go.Proofs.Ytomaojmccchibaa.X Go.Proofs.YtomaojmccchibaaW.PrintWords

theorem RatesLoads : paternosterlaw04_RatesLoads.PureS := by
  unfold paternosterlaw04_RatesLoads.PureS
  intros
  rfl
end Go.Proofs.Ytomaojmccchibaa.Pure
