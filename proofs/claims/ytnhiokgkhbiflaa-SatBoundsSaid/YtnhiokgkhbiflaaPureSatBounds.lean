/- SatBounds: nothing is ever beyond the bounds; both numbers the other way round come to the same. No condition. -/
import Derived.Test.YtnhiokgkhbiflaaXx13
import Derived.Test.YtnhiokgkhbiflaaSatPlain2
namespace Go.Proofs.Ytnhiokgkhbiflaa.Pure
open Go.RowKit Go.Proofs.Ytnhiokgkhbiflaa.X Go.Proofs.YtnhiokgkhbiflaaW.PrintWords Go.Proofs.YtnhiokgkhbiflaaW.PrintLast

theorem addV_comm (a b : Int) : addV b a = addV a b := by rw [addV_eq, addV_eq, Int.add_comm]
theorem addM_comm (a b : Int) : addM b a = addM a b := by
  unfold addM; rw [Int.add_comm (bnd b)]; cases met a <;> cases met b <;> rfl
theorem rmV_comm (x y : Int) : rmV y x = rmV x y := by
  unfold rmV; rw [Nat.mul_comm, Int.mul_comm]; cases decide (x < 0) <;> cases decide (y < 0) <;> rfl
theorem rmM_comm (x y : Int) : rmM y x = rmM x y := by unfold rmM; rw [Nat.mul_comm]
theorem mulV_comm (a b : Int) : mulV b a = mulV a b := by rw [mulV_eq, mulV_eq, rmV_comm]
theorem mulM_comm (a b : Int) : mulM b a = mulM a b := by rw [mulM_eq, mulM_eq, rmM_comm]; cases met a <;> cases met b <;> rfl
theorem mulV_one (a : Int) : mulV a 1 = bnd a := by
  have := bnd_in a
  rw [mulV_eq, bnd_small (x := 1) (by omega) (by omega)]; unfold rmV; rw [if_pos (by rw [show Int.natAbs 1 = 1 from rfl]; omega)]; omega
theorem mulM_one (a : Int) : mulM a 1 = met a := by
  have := bnd_in a
  rw [mulM_eq, bnd_small (x := 1) (by omega) (by omega), met_false (x := 1) (by omega) (by omega)]
  have : rmM (bnd a) 1 = false := by unfold rmM; simp; omega
  rw [this]; simp
theorem addV_zero (a : Int) : addV a 0 = bnd a := by
  have := bnd_in a
  rw [addV_eq, bnd_small (x := 0) (by omega) (by omega), Int.add_zero, bnd_small (by omega) (by omega)]
theorem SatBounds : paternosterlaw03_SatBounds.Pure := by
  intro a b _ _
  refine ⟨3, ?_⟩
  unfold paternosterlaw03_SatBounds.f
  rw [awake3 3 (by omega)]
  have h1 : -1099511627776 ≤ addV a b ∧ addV a b ≤ 1099511627776 := bnd_in _
  have h2 : -1099511627776 ≤ mulV a b ∧ mulV a b ≤ 1099511627776 := bnd_in _
  simp only [sat_Add.f, sat_Mul.f, Option.bind_some, if_true, addV_comm a b, addM_comm a b, mulV_comm a b, mulM_comm a b, mulV_one, mulM_one, addV_zero, beq_self_eq_true]
  rw [if_pos h1.2, if_pos h1.1, if_pos h2.2, if_pos h2.1]
  unfold met
  simp [bne_comm]
end Go.Proofs.Ytnhiokgkhbiflaa.Pure
