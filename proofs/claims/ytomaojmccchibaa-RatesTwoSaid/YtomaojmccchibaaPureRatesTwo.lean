/- RatesTwo: two tables of the same rates tell the same, in whatever order they are asked; asking one lays nothing of the other. No condition. -/
import Derived.Test.YtomaojmccchibaaPsRatesTwo
import Derived.OpenShut
namespace Go.Proofs.Ytomaojmccchibaa.Pure
open Go.RowKit Go.Proofs.Ytomaojmccchibaa.X Go.Proofs.YtomaojmccchibaaW.PrintWords

theorem RatesTwo : paternosterlaw04_RatesTwo.PureS := by
  unfold paternosterlaw04_RatesTwo.PureS
  intros
  rfl
end Go.Proofs.Ytomaojmccchibaa.Pure
