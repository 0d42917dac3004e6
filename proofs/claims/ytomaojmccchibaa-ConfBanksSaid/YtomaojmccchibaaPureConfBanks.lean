/- ConfBanks: cars of one bank stand together, as many as it has, and each bank behind the one ahead. No condition. -/
import Derived.Test.YtomaojmccchibaaPsConfBanks
import Derived.Test.YtomaojmccchibaaConfBanksPlain
namespace Go.Proofs.Ytomaojmccchibaa.Pure
open Go.RowKit Go.Proofs.Ytomaojmccchibaa.X Go.Proofs.YtomaojmccchibaaW.PrintWords

theorem ConfBanks : paternosterlaw05_ConfBanks.PureS := by
  intro l x1 x2 o x4 x5 x6 x7 x8 x9 x10 x11 x12 _
  exact ⟨400, banks_true l x1 x2 o x4 x5 x6 x7 x8 x9 x10 x11 x12⟩
end Go.Proofs.Ytomaojmccchibaa.Pure
