/- ConfTells: of a group that may be, how many cars there are, each one's bank, the most that one draws, and how long things take, are the document's. No condition. -/
import Derived.Test.YtomaojmccchibaaPsConfTells
namespace Go.Proofs.Ytomaojmccchibaa.Pure
open Go.RowKit Go.Proofs.Ytomaojmccchibaa.X Go.Proofs.YtomaojmccchibaaW.PrintWords

theorem ConfTells : paternosterlaw05_ConfTells.PureS := by
  intro l x1 x2 o x4 x5 x6 x7 x8 x9 x10 x11 x12 a1 _ _
  rfl
end Go.Proofs.Ytomaojmccchibaa.Pure
