/- Contracts of sat.Add and sat.Mul (their callee sat.both takes a function value), in the shape of the printed contracts. -/
import Derived.Test.YtnhiokgkhbiflaaXx0
import Derived.Lib.Mul64
import Derived.Laws.Bits64b
namespace Go.Proofs.Ytnhiokgkhbiflaa.X
open Go.RowKit Go.Proofs.YtnhiokgkhbiflaaW.PrintWords Go.Proofs.YtnhiokgkhbiflaaW.PrintLast Go.Proofs.YtnhiokgkhbiflaaW.PrintMore
attribute [local go_sem] max2_int min2_int max_two min_two max_three min_three max_four min_four
set_option linter.unusedVariables false
set_option linter.unusedSimpArgs false

/-- A number within bounds. -/
def bnd (x : Int) : Int := mx (mn x 1099511627776) (-1099511627776)
/-- Whether it met one. -/
def met (x : Int) : Bool := x != bnd x

theorem bound_any (x : Int) (w : World) : Calls Try.prog 46 #[.int .i64 x] w fun e w' => e = .returned (.tuple #[.int .i64 (bnd x), .bool (met x)]) ∧ w = w' := by
  obtain ⟨m, hm⟩ : ∃ m, (if 1099511627776 < x then 1099511627776 else x) = m := ⟨_, rfl⟩
  obtain ⟨y, hy⟩ : ∃ y, (if m < -1099511627776 then -1099511627776 else m) = y := ⟨_, rfl⟩
  have H := Aside0.mk (show bnd x = y by rw [← hy, ← hm]; rfl)
  go_enter Try.func46, Try.ntmps46
  go_wp2
  go_ret2
  exact ⟨by unfold met; rw [H.out]; rfl, rfl⟩

def addV (a b : Int) : Int := bnd (wrap64 (bnd a + bnd b))
def addM (a b : Int) : Bool := met a || (met b || met (wrap64 (bnd a + bnd b)))
theorem both_add (a b : Int) (w : World) : Calls Try.prog 38 #[.int .i64 a, .int .i64 b, .func (.func 39) #[] #[]] w fun e w' => e = .returned (.tuple #[.int .i64 (addV a b), .bool (addM a b)]) ∧ w = w' := by
  cases ha : met a <;> cases hb : met b <;> (
  go_enter Try.func38, Try.ntmps38
  go_wp2_with (first | (go_at_call 46; refine (bound_any _ _).mono ?_; rintro e w' ⟨rfl, rfl⟩) | go_in)
  go_ret2
  exact ⟨by simp [addV, addM, ha, hb], rfl⟩)

def sat_Add.f (a0 : Int) (a1 : Int) : Option (Int × Bool) := some (addV a0 a1, addM a0 a1)
theorem sat_Add.calls (a0 : Int) (a1 : Int) (r1 : Int) (r2 : Bool) (w : World) (h : sat_Add.f a0 a1 = some (r1, r2)) :
    Calls Try.prog 23 #[.int .i64 a0, .int .i64 a1] w fun e w' => e = .returned (.tuple #[.int .i64 r1, .bool r2]) ∧ Drawn0 w w' := by
  simp only [sat_Add.f, Option.some.injEq, Prod.mk.injEq] at h
  obtain ⟨rfl, rfl⟩ := h
  go_enter Try.func23, Try.ntmps23
  go_wp2_with (first | (go_at_call 38; refine (both_add _ _ _).mono ?_; rintro e w' ⟨rfl, rfl⟩))
  go_ret2
  exact ⟨rfl, Drawn0.refl _⟩

namespace M64
theorem maskN (a : Nat) (ha : a < 18446744073709551616) : bits .and .u64 (a : Int) 4294967295 = ((a % 4294967296 : Nat) : Int) := by
  have h := bits_and_u64_nat a 4294967295 ha (by omega)
  have e : a &&& 4294967295 = a % 4294967296 := Nat.and_two_pow_sub_one_eq_mod a 32
  rw [e] at h
  exact h
theorem divN (a : Nat) : (a : Int) / 4294967296 = ((a / 4294967296 : Nat) : Int) := by omega
theorem mulN (a b : Nat) : (a : Int) * (b : Int) = ((a * b : Nat) : Int) := (Int.natCast_mul a b).symm
theorem addN (a b : Nat) : (a : Int) + (b : Int) = ((a + b : Nat) : Int) := (Int.natCast_add a b).symm
theorem wrapN (a : Nat) (ha : a < 18446744073709551616) : IntKind.u64.wrap (a : Int) = (a : Int) := by rw [IntKind.wrap_u64]; omega
theorem wrapM (a : Nat) : IntKind.u64.wrap (a : Int) = ((a % 18446744073709551616 : Nat) : Int) := by rw [IntKind.wrap_u64]; omega
end M64
set_option maxHeartbeats 1000000 in
theorem mul64_any (x y : Nat) (hx : x < 18446744073709551616) (hy : y < 18446744073709551616) (w : World) :
    Calls Try.prog 42 #[.int .u64 x, .int .u64 y] w fun e w' => e = .returned (.tuple #[.int .u64 ((x * y / 18446744073709551616 : Nat) : Int), .int .u64 ((x * y % 18446744073709551616 : Nat) : Int)]) ∧ w = w' := by
  obtain ⟨bd, bt, bw, hhi⟩ := Lib.mul64_hi x y hx hy
  have ba := Lib.half_mul_le (a := x / 4294967296) (b := y / 4294967296) (by omega) (by omega)
  have bb := Lib.half_mul_le (a := x / 4294967296) (b := y % 4294967296) (by omega) (by omega)
  have bc := Lib.half_mul_le (a := x % 4294967296) (b := y / 4294967296) (by omega) (by omega)
  have ba' : x / 4294967296 * (y / 4294967296) < 18446744073709551616 := by omega
  have bb' : x / 4294967296 * (y % 4294967296) < 18446744073709551616 := by omega
  have bc' : x % 4294967296 * (y / 4294967296) < 18446744073709551616 := by omega
  have bh1 : x / 4294967296 * (y / 4294967296) + (x / 4294967296 * (y % 4294967296) + x % 4294967296 * (y % 4294967296) / 4294967296) / 4294967296 < 18446744073709551616 := by omega
  have bh : x / 4294967296 * (y / 4294967296) + (x / 4294967296 * (y % 4294967296) + x % 4294967296 * (y % 4294967296) / 4294967296) / 4294967296 + ((x / 4294967296 * (y % 4294967296) + x % 4294967296 * (y % 4294967296) / 4294967296) % 4294967296 + x % 4294967296 * (y / 4294967296)) / 4294967296 < 18446744073709551616 := by omega
  go_enter Try.func42, Try.ntmps42
  go_wp2
  simp only [M64.maskN x hx, M64.maskN y hy, M64.divN, M64.mulN, M64.addN, M64.wrapN _ bd, M64.wrapN _ bb', M64.wrapN _ bt, M64.maskN _ bt, M64.wrapN _ bc', M64.wrapN _ bw, M64.wrapN _ ba', M64.wrapN _ bh1, M64.wrapN _ bh, M64.wrapM (x * y)]
  rw [hhi]
  go_ret2
  exact ⟨rfl, rfl⟩

def sgn (s t : Bool) (p : Int) : Int := if s = t then p else -p
theorem mul64_qr (x y : Nat) (q r : Int) (hx : x < 18446744073709551616) (hy : y < 18446744073709551616) (hq : ((x * y / 18446744073709551616 : Nat) : Int) = q) (hr : ((x * y % 18446744073709551616 : Nat) : Int) = r) (w : World) :
    Calls Try.prog 42 #[.int .u64 x, .int .u64 y] w fun e w' => e = .returned (.tuple #[.int .u64 q, .int .u64 r]) ∧ w = w' := by
  subst hq hr; exact mul64_any x y hx hy w
/-- What the closure of Mul comes to, at sizes x and y and signs s and t, and the words of their product. -/
theorem mulc_qr (x y : Nat) (q r : Int) (hx : x ≤ 1099511627776) (hy : y ≤ 1099511627776) (a b : Int) (hxa : a = x ∧ 0 ≤ a ∨ a = -(x : Int) ∧ a < 0) (hyb : b = y ∧ 0 ≤ b ∨ b = -(y : Int) ∧ b < 0)
    (hq : Aside0 (((x * y / 18446744073709551616 : Nat) : Int) = q)) (hr : Aside0 (((x * y % 18446744073709551616 : Nat) : Int) = r)) (p : Int) (h0 : 0 ≤ q) (h1 : 0 ≤ r) (h2 : r < 18446744073709551616)
    (hp : 1 ≤ q ∧ p = 1099511627777 ∨ q = 0 ∧ 1099511627777 ≤ r ∧ p = 1099511627777 ∨ q = 0 ∧ r ≤ 1099511627776 ∧ p = r) (w : World) :
    Calls Try.prog 41 #[.int .i64 a, .int .i64 b] w fun e w' => e = .returned (.int .i64 (sgn (decide (a < 0)) (decide (b < 0)) p)) ∧ w = w' := by
  rcases hxa with ⟨rfl, ha⟩ | ⟨rfl, ha⟩ <;> rcases hyb with ⟨rfl, hb⟩ | ⟨rfl, hb⟩ <;> rcases hp with ⟨h3, rfl⟩ | ⟨rfl, h3, rfl⟩ | ⟨rfl, h3, rfl⟩ <;> (
    first | have hda : decide (0 < x) = true := decide_eq_true (by omega) | have hda : decide ((x : Int) < 0) = false := decide_eq_false (by omega)
    first | have hdb : decide (0 < y) = true := decide_eq_true (by omega) | have hdb : decide ((y : Int) < 0) = false := decide_eq_false (by omega)
    go_enter Try.func41, Try.ntmps41
    go_wp2_with (first | (go_at_call 42; refine (mul64_qr x y _ _ (by omega) (by omega) hq.out hr.out _).mono ?_; rintro e w' ⟨rfl, rfl⟩))
    go_ret
    exact ⟨by first | rfl | ((try simp only [hda, hdb]); rfl) | (simp [sgn, hda, hdb]; done), rfl⟩)

/-- The product of two numbers within bounds, as the closure tells it. -/
def prodC (a b : Int) : Int := sgn (decide (a < 0)) (decide (b < 0)) (if a.natAbs * b.natAbs ≤ 1099511627776 then ((a.natAbs * b.natAbs : Nat) : Int) else 1099511627777)
theorem mulc_any (a b : Int) (ha : -1099511627776 ≤ a ∧ a ≤ 1099511627776) (hb : -1099511627776 ≤ b ∧ b ≤ 1099511627776) (w : World) :
    Calls Try.prog 41 #[.int .i64 a, .int .i64 b] w fun e w' => e = .returned (.int .i64 (prodC a b)) ∧ w = w' := by
  refine mulc_qr a.natAbs b.natAbs _ _ (by omega) (by omega) a b (by omega) (by omega) ⟨rfl⟩ ⟨rfl⟩ _ (by omega) (by omega) (by omega) ?_ w
  generalize a.natAbs * b.natAbs = n
  split <;> omega
theorem bnd_in (x : Int) : -1099511627776 ≤ bnd x ∧ bnd x ≤ 1099511627776 := by unfold bnd mx mn; split <;> split <;> omega
def mulV (a b : Int) : Int := bnd (prodC (bnd a) (bnd b))
def mulM (a b : Int) : Bool := met a || (met b || met (prodC (bnd a) (bnd b)))
theorem both_mul (a b : Int) (w : World) : Calls Try.prog 38 #[.int .i64 a, .int .i64 b, .func (.func 41) #[] #[]] w fun e w' => e = .returned (.tuple #[.int .i64 (mulV a b), .bool (mulM a b)]) ∧ w = w' := by
  cases ha : met a <;> cases hb : met b <;> (
  go_enter Try.func38, Try.ntmps38
  go_wp2_with (first | (go_at_call 46; refine (bound_any _ _).mono ?_; rintro e w' ⟨rfl, rfl⟩) | (go_at_call 41; refine (mulc_any _ _ (bnd_in _) (bnd_in _) _).mono ?_; rintro e w' ⟨rfl, rfl⟩))
  go_ret2
  exact ⟨by simp [mulV, mulM, ha, hb], rfl⟩)

def sat_Mul.f (a0 : Int) (a1 : Int) : Option (Int × Bool) := some (mulV a0 a1, mulM a0 a1)
theorem sat_Mul.calls (a0 : Int) (a1 : Int) (r1 : Int) (r2 : Bool) (w : World) (h : sat_Mul.f a0 a1 = some (r1, r2)) :
    Calls Try.prog 25 #[.int .i64 a0, .int .i64 a1] w fun e w' => e = .returned (.tuple #[.int .i64 r1, .bool r2]) ∧ Drawn0 w w' := by
  simp only [sat_Mul.f, Option.some.injEq, Prod.mk.injEq] at h
  obtain ⟨rfl, rfl⟩ := h
  go_enter Try.func25, Try.ntmps25
  go_wp2_with (first | (go_at_call 38; refine (both_mul _ _ _).mono ?_; rintro e w' ⟨rfl, rfl⟩))
  go_ret2
  exact ⟨rfl, Drawn0.refl _⟩

end Go.Proofs.Ytnhiokgkhbiflaa.X
