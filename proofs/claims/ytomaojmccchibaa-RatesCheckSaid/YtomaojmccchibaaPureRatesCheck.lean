/- RatesCheck: whether any rates may be is the document's; of others there is no table. No condition. -/
import Derived.Test.YtomaojmccchibaaPsRatesCheck
import Derived.OpenShut
namespace Go.Proofs.Ytomaojmccchibaa.Pure
open Go.RowKit Go.Proofs.Ytomaojmccchibaa.X Go.Proofs.YtomaojmccchibaaW.PrintWords

theorem RatesCheck : paternosterlaw04_RatesCheck.PureS := by
  unfold paternosterlaw04_RatesCheck.PureS
  intros
  rfl
end Go.Proofs.Ytomaojmccchibaa.Pure
