/- Contracts of sat.Add and sat.Mul (their callee sat.both takes a function value), in the shape of the printed contracts. -/
import Derived.Test.YtomaojmccchibaaXx0
namespace Go.Proofs.Ytomaojmccchibaa.X
open Go.RowKit Go.Proofs.YtomaojmccchibaaW.PrintWords Go.Proofs.YtomaojmccchibaaW.PrintLast Go.Proofs.YtomaojmccchibaaW.PrintMore
attribute [local go_sem] max2_int min2_int max_two min_two max_three min_three max_four min_four
set_option linter.unusedVariables false
set_option linter.unusedSimpArgs false

/-- A number within bounds. -/
def bnd (x : Int) : Int := mx (mn x 1099511627776) (-1099511627776)
/-- Whether it met one. -/
def met (x : Int) : Bool := x != bnd x

theorem bound_any (x : Int) (w : World) : Calls Try.prog 93 #[.int .i64 x] w fun e w' => e = .returned (.tuple #[.int .i64 (bnd x), .bool (met x)]) ∧ w = w' := by
  obtain ⟨m, hm⟩ : ∃ m, (if 1099511627776 < x then 1099511627776 else x) = m := ⟨_, rfl⟩
  obtain ⟨y, hy⟩ : ∃ y, (if m < -1099511627776 then -1099511627776 else m) = y := ⟨_, rfl⟩
  have H := Aside0.mk (show bnd x = y by rw [← hy, ← hm]; rfl)
  go_enter Try.func93, Try.ntmps93
  go_wp2
  go_ret2
  exact ⟨by unfold met; rw [H.out]; rfl, rfl⟩

def addV (a b : Int) : Int := bnd (wrap64 (bnd a + bnd b))
def addM (a b : Int) : Bool := met a || (met b || met (wrap64 (bnd a + bnd b)))
theorem both_add (a b : Int) (w : World) : Calls Try.prog 87 #[.int .i64 a, .int .i64 b, .func (.func 88) #[] #[]] w fun e w' => e = .returned (.tuple #[.int .i64 (addV a b), .bool (addM a b)]) ∧ w = w' := by
  cases ha : met a <;> cases hb : met b <;> (
  go_enter Try.func87, Try.ntmps87
  go_wp2_with (first | (go_at_call 93; refine (bound_any _ _).mono ?_; rintro e w' ⟨rfl, rfl⟩) | go_in)
  go_ret2
  exact ⟨by simp [addV, addM, ha, hb], rfl⟩)

def sat_Add.f (a0 : Int) (a1 : Int) : Option (Int × Bool) := some (addV a0 a1, addM a0 a1)
theorem sat_Add.calls (a0 : Int) (a1 : Int) (r1 : Int) (r2 : Bool) (w : World) (h : sat_Add.f a0 a1 = some (r1, r2)) :
    Calls Try.prog 81 #[.int .i64 a0, .int .i64 a1] w fun e w' => e = .returned (.tuple #[.int .i64 r1, .bool r2]) ∧ Drawn0 w w' := by
  simp only [sat_Add.f, Option.some.injEq, Prod.mk.injEq] at h
  obtain ⟨rfl, rfl⟩ := h
  go_enter Try.func81, Try.ntmps81
  go_wp2_with (first | (go_at_call 87; refine (both_add _ _ _).mono ?_; rintro e w' ⟨rfl, rfl⟩))
  go_ret2
  exact ⟨rfl, Drawn0.refl _⟩

end Go.Proofs.Ytomaojmccchibaa.X
