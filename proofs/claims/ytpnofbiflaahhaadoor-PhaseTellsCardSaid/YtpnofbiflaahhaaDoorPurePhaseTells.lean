/- PhaseTells: names, whether one may follow the other, and whether rows fit, are the document's. No condition but the tables. -/
import Derived.Test.YtpnofbiflaahhaaDoorPsPhaseTells
import Derived.Test.YtpnofbiflaahhaaDoorPhaseFitsEq
namespace Go.Proofs.YtpnofbiflaahhaaDoor.Pure
open Go.RowKit Go.Proofs.YtpnofbiflaahhaaDoor.X Go.Proofs.YtpnofbiflaahhaaDoorW.PrintWords Go.Proofs.YtpnofbiflaahhaaDoorW.PrintLast

theorem PhaseTells : paternosterlaw21_PhaseTells.PureS := by
  intro a b l m _ _ _ _
  refine ⟨40 + 30000, ?_⟩
  unfold paternosterlaw21_PhaseTells.f
  rw [awake1]
  simp only [Option.bind_some, if_true]
  by_cases h1 : (l.length : Int) > 80
  · rw [if_pos h1]; rfl
  · rw [if_neg h1]
    by_cases h2 : (m.length : Int) > 80
    · rw [decide_eq_true h2]; rfl
    · rw [decide_eq_false h2]
      rw [show (40 + 30000 : Nat) = 30039 + 1 from rfl]
      simp only [paternosterlaw21_PhaseTells.j0, Bool.false_eq_true, if_false]
      rw [name_ref, show (30039 : Nat) = 30037 + 2 from rfl, may_ref 30037, fits_ref' l (by omega) _ (by omega), follows_eq l m (by omega) (by omega) _ (by omega), follows_ref l m (by omega) (by omega) _ (by omega)]
      simp only [phase_Name.f, phase_May.f, phase_Fits.f, Option.bind_some, if_true, beq_self_eq_true, if_pos (show l.length ≤ 1000 by omega)]
end Go.Proofs.YtpnofbiflaahhaaDoor.Pure
