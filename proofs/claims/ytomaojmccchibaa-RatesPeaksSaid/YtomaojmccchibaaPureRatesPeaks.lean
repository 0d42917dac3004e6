/- RatesPeaks: what a table tells, in whatever order it is asked, is the document's, and it is laid once. No condition. -/
import Derived.Test.YtomaojmccchibaaPsRatesPeaks
import Derived.OpenShut
namespace Go.Proofs.Ytomaojmccchibaa.Pure
open Go.RowKit Go.Proofs.Ytomaojmccchibaa.X Go.Proofs.YtomaojmccchibaaW.PrintWords

theorem RatesPeaks : paternosterlaw04_RatesPeaks.PureS := by
  unfold paternosterlaw04_RatesPeaks.PureS
  intros
  rfl
end Go.Proofs.Ytomaojmccchibaa.Pure
