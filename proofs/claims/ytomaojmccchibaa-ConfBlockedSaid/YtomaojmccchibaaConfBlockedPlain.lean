/- Blocked ticks below 0 count as none, those above a million as a million. -/
import Derived.Test.YtomaojmccchibaaConfPlain
import Derived.Test.YtomaojmccchibaaXx20
namespace Go.Proofs.Ytomaojmccchibaa.X
open Go.RowKit Go.Proofs.YtomaojmccchibaaW.PrintWords Go.Proofs.YtomaojmccchibaaW.PrintLast Go.Proofs.YtomaojmccchibaaW.PrintMore
set_option linter.unusedVariables false
set_option linter.unusedSimpArgs false

theorem stp_stp (b : Int) : stp (stp b) = stp b := by
  have h := stp_le b
  generalize stp b = s at h ⊢
  unfold stp mx mn
  split <;> split <;> omega
theorem blocked_true (l : List S38) (x1 x2 : Int) (o : List Int) (x4 x5 x6 x7 x8 x9 x10 x11 x12 a b : Int) : paternosterlaw05_ConfBlocked.f 400 l x1 x2 o x4 x5 x6 x7 x8 x9 x10 x11 x12 a b = some true := by
  unfold paternosterlaw05_ConfBlocked.f paternosterlaw05_awake.f
  rw [Option.bind_some, if_pos rfl, small_f, Option.bind_some]
  by_cases hs : (decide (l.length ≤ 12) && decide (o.length ≤ 100)) = true
  · rw [if_pos hs]
    simp only [Bool.and_eq_true, decide_eq_true_eq] at hs
    rw [chk_f hs.2, Option.bind_some]
    by_cases hc : checkV l x1 x2 o x4 x5 x6 x7 x8 x9 x10 x11 x12 = true
    · rw [hc]
      have h := check_iff.1 hc
      have ha := stp_le a
      have hb := stp_le b
      have hv := h.saves_le
      simp only [paternosterlaw05_ConfBlocked.j0]
      change (if (!true) = true then some true else _) = _
      rw [if_neg (by simp), show mn (mx a 0) 1000000 = stp a from rfl, show mn (mx b 0) 1000000 = stp b from rfl]
      simp only [h.limit_f 399 (by omega), h.back_f 399 (by omega), h.saves_f 399 (by omega), Option.bind_some, stp_stp]
      rw [if_pos trivial, bne_self_eq_false]
      simp only [paternosterlaw05_ConfBlocked.j1]
      rw [if_neg (by simp)]
      simp only [h.limit_f 398 (by omega), h.back_f 398 (by omega), h.saves_f 398 (by omega), Option.bind_some]
      rw [if_pos (congrArg wrap64 (by omega)), if_pos (congrArg wrap64 (by omega)), if_pos hv.1, decide_eq_true hv.2]
    · rw [Bool.not_eq_true] at hc
      rw [hc]; simp [paternosterlaw05_ConfBlocked.j0]
  · rw [if_neg hs]; simp [paternosterlaw05_ConfBlocked.j0]
end Go.Proofs.Ytomaojmccchibaa.X
