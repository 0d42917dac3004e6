/- SatSigns: a product with the other sign is the other one; by 0 it is 0; a sum of both signs is 0. No condition. -/
import Derived.Test.YtnhiokgkhbiflaaXx14
import Derived.Test.YtnhiokgkhbiflaaSatPlain2
namespace Go.Proofs.Ytnhiokgkhbiflaa.Pure
open Go.RowKit Go.Proofs.Ytnhiokgkhbiflaa.X Go.Proofs.YtnhiokgkhbiflaaW.PrintWords Go.Proofs.YtnhiokgkhbiflaaW.PrintLast

theorem bnd_neg (x : Int) : bnd (-x) = -bnd x := by unfold bnd mx mn; repeat' split
                                                    all_goals omega
theorem met_neg (x : Int) : met (-x) = met x := by
  rw [met_eq, met_eq, Bool.and_comm]; congr 2 <;> (rw [decide_eq_decide]; omega)
theorem rmV_neg (x y : Int) : rmV (-x) y = -rmV x y := by
  unfold rmV; rw [Int.natAbs_neg]
  by_cases h : x.natAbs * y.natAbs ≤ 1099511627776
  · rw [if_pos h, if_pos h, Int.neg_mul]
  · rw [if_neg h, if_neg h]
    have hx : x ≠ 0 := by rintro rfl; simp at h
    by_cases h1 : x < 0 <;> by_cases h2 : y < 0
    · rw [if_neg (by simp [h2]; omega), if_pos (by simp [h1, h2])]
    · rw [if_pos (by simp [h2]; omega), if_neg (by simp [h1, h2])]; omega
    · rw [if_pos (by simp [h2]; omega), if_neg (by simp [h1, h2])]; omega
    · rw [if_neg (by simp [h2]; omega), if_pos (by simp [h1, h2])]
theorem rmM_neg (x y : Int) : rmM (-x) y = rmM x y := by unfold rmM; rw [Int.natAbs_neg]
theorem rmV_comm (x y : Int) : rmV y x = rmV x y := by
  unfold rmV; rw [Nat.mul_comm, Int.mul_comm]; cases decide (x < 0) <;> cases decide (y < 0) <;> rfl
theorem rmM_comm (x y : Int) : rmM y x = rmM x y := by unfold rmM; rw [Nat.mul_comm]
theorem mul_neg1 (a b : Int) : mulV (-a) b = -mulV a b ∧ mulM (-a) b = mulM a b := by
  rw [mulV_eq, mulV_eq, mulM_eq, mulM_eq, bnd_neg, rmV_neg, rmM_neg, met_neg]; exact ⟨rfl, rfl⟩
theorem mul_neg2 (a b : Int) : mulV a (-b) = -mulV a b ∧ mulM a (-b) = mulM a b := by
  rw [mulV_eq, mulV_eq, mulM_eq, mulM_eq, bnd_neg, rmV_comm, rmV_neg, rmV_comm, rmM_comm, rmM_neg, rmM_comm, met_neg]; exact ⟨rfl, rfl⟩
theorem mul_zero (a : Int) : mulV a 0 = 0 := by rw [mulV_eq, bnd_small (x := 0) (by omega) (by omega)]; unfold rmV; simp
theorem add_back (a : Int) : addV a (-a) = 0 := by
  have := bnd_in a
  rw [addV_eq, bnd_neg, bnd_small (by omega) (by omega)]; omega
theorem SatSigns : paternosterlaw03_SatSigns.Pure := by
  intro a b ha hb
  have ha := bounds_i64 ha
  have hb := bounds_i64 hb
  refine ⟨3, ?_⟩
  unfold paternosterlaw03_SatSigns.f
  rw [awake3 3 (by omega)]
  simp only [Option.bind_some, if_true]
  have hj : ∀ c, (c = false → -4611686018427387904 ≤ a ∧ -4611686018427387904 ≤ b) → paternosterlaw03_SatSigns.j0 3 a b c = some true := by
    intro c hc
    simp only [paternosterlaw03_SatSigns.j0]
    cases c
    · obtain ⟨h1, h2⟩ := hc rfl
      have h2 : -1099511627776 ≤ mulV a b ∧ mulV a b ≤ 1099511627776 := bnd_in _
      rw [if_neg (by simp), wrap_in (x := -a) (by omega) (by omega), wrap_in (x := -b) (by omega) (by omega)]
      simp only [sat_Add.f, sat_Mul.f, Option.bind_some, (mul_neg1 a b).1, (mul_neg1 a b).2, (mul_neg2 a b).1, (mul_neg2 a b).2, mul_zero, add_back]
      rw [wrap_in (by omega) (by omega), Int.neg_neg]
      simp
    · rfl
  by_cases h : a < -4611686018427387904
  · rw [if_pos h]; exact hj _ (by simp)
  · rw [if_neg h]; exact hj _ (by simp; omega)
end Go.Proofs.Ytnhiokgkhbiflaa.Pure
