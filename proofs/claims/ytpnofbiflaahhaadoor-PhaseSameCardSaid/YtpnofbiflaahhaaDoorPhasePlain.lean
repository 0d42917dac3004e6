/- Plain facts of layer 21: the document's functions and the program's, as one set of plain functions. -/
import Derived.Test.YtpnofbiflaahhaaDoorPhaseFits
import Derived.Test.YtpnofbiflaahhaaDoorXx3
import Derived.Test.YtpnofbiflaahhaaDoorXx4
import Derived.Test.YtpnofbiflaahhaaDoorXx5
import Derived.Test.YtpnofbiflaahhaaDoorXx8
namespace Go.Proofs.YtpnofbiflaahhaaDoor.Pure
open Go.RowKit Go.Proofs.YtpnofbiflaahhaaDoor.X Go.Proofs.YtpnofbiflaahhaaDoorW.PrintWords Go.Proofs.YtpnofbiflaahhaaDoorW.PrintLast

theorem wrap_in {x : Int} (h0 : -9223372036854775808 ≤ x) (h1 : x ≤ 9223372036854775807) : wrap64 x = x := by
  unfold wrap64
  omega
theorem awake40 : paternosterlaw21_awake.f 40 = some true := by decide +kernel
theorem awake1 (n : Nat) : paternosterlaw21_awake.f (40 + n) = some true := by
  induction n with
  | zero => exact awake40
  | succ n ih => exact paternosterlaw21_awake.mono _ _ ih
theorem name_ref (a : Int) : paternosterref21_Name.f a = some (nameB a) := by
  unfold paternosterref21_Name.f nameB
  simp only [Option.bind_some]
  by_cases h : isP a
  · have h0 : a = 0 ∨ a = 1 ∨ a = 2 ∨ a = 3 ∨ a = 4 ∨ a = 5 := by unfold isP at h; omega
    rcases h0 with rfl | rfl | rfl | rfl | rfl | rfl <;> rfl
  · rw [if_neg h]
    by_cases h0 : a < 0
    · rw [if_pos h0]; rfl
    · rw [if_neg h0, if_pos (by unfold isP at h; omega)]; rfl
theorem may_ref (k : Nat) (a b : Int) : paternosterref21_May.f (k + 2) a b = some (mayB a b) := by
  unfold paternosterref21_May.f
  by_cases ha : isP a
  · by_cases hb : isP b
    · have h0 : a = 0 ∨ a = 1 ∨ a = 2 ∨ a = 3 ∨ a = 4 ∨ a = 5 := by unfold isP at ha; omega
      have h1 : b = 0 ∨ b = 1 ∨ b = 2 ∨ b = 3 ∨ b = 4 ∨ b = 5 := by unfold isP at hb; omega
      rcases h0 with rfl | rfl | rfl | rfl | rfl | rfl <;> rcases h1 with rfl | rfl | rfl | rfl | rfl | rfl <;> rfl
    · have e : mayB a b = false := by simp [mayB, hb]
      rw [e, if_neg (by unfold isP at ha; omega), if_neg (by unfold isP at ha; omega)]
      by_cases h0 : b < 0
      · rw [if_pos h0]; rfl
      · rw [if_neg h0, decide_eq_true (by unfold isP at hb; omega)]; rfl
  · have e : mayB a b = false := by simp [mayB, ha]
    rw [e]
    by_cases h0 : a < 0
    · rw [if_pos h0]; rfl
    · rw [if_neg h0, if_pos (by unfold isP at ha; omega)]; rfl
end Go.Proofs.YtpnofbiflaahhaaDoor.Pure
