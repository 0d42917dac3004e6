/- The contract of paternosterref03.Mul (the document's product by division), in the shape of the printed contracts. -/
import Derived.Test.YtnhiokgkhbiflaaSatPlain
namespace Go.Proofs.Ytnhiokgkhbiflaa.X
open Go.RowKit Go.Proofs.YtnhiokgkhbiflaaW.PrintWords Go.Proofs.YtnhiokgkhbiflaaW.PrintLast Go.Proofs.YtnhiokgkhbiflaaW.PrintMore
set_option linter.unusedVariables false
set_option linter.unusedSimpArgs false

theorem rbound_any (x : Int) (w : World) : Calls Try.prog 40 #[.int .i64 x] w fun e w' => e = .returned (.tuple #[.int .i64 (bnd x), .bool (met x)]) ∧ w = w' := by
  rcases (show 1099511627776 < x ∨ x < -1099511627776 ∨ -1099511627776 ≤ x ∧ x ≤ 1099511627776 by omega) with h | h | ⟨h1, h2⟩
  · have H := Aside0.mk (show bnd x = 1099511627776 from bnd_hi (by omega))
    have H2 := Aside0.mk (show met x = true by rw [met_eq]; simp; omega)
    go_enter Try.func40, Try.ntmps40
    go_wp2
    go_ret2
    exact ⟨by rw [H.out, H2.out]; rfl, rfl⟩
  · have H := Aside0.mk (show bnd x = -1099511627776 from bnd_lo (by omega))
    have H2 := Aside0.mk (show met x = true by rw [met_eq]; simp; omega)
    go_enter Try.func40, Try.ntmps40
    go_wp2
    go_ret2
    exact ⟨by rw [H.out, H2.out]; rfl, rfl⟩
  · have H := Aside0.mk (show bnd x = x from bnd_small h1 h2)
    have H2 := Aside0.mk (show met x = false from met_false h1 h2)
    go_enter Try.func40, Try.ntmps40
    go_wp2
    go_ret2
    exact ⟨by rw [H.out, H2.out]; rfl, rfl⟩

/-- Bound's answer, under names. -/
theorem rbound_is (x y : Int) (m : Bool) (hy : Aside0 (bnd x = y)) (hm : Aside0 (met x = m)) (w : World) : Calls Try.prog 40 #[.int .i64 x] w fun e w' => e = .returned (.tuple #[.int .i64 y, .bool m]) ∧ w = w' := by
  obtain ⟨rfl⟩ := hy; obtain ⟨rfl⟩ := hm; exact rbound_any x w

/-- The product cut at the bound, with its sign; whether it was cut. -/
def rmV (x y : Int) : Int := if x.natAbs * y.natAbs ≤ 1099511627776 then x * y else if decide (x < 0) = decide (y < 0) then 1099511627776 else -1099511627776
def rmM (x y : Int) : Bool := decide (1099511627776 < x.natAbs * y.natAbs)
theorem ret_ib {a b : Int} {c d : Bool} (h1 : a = b) (h2 : c = d) : Ending.returned (.tuple #[.int .i64 a, .bool c]) = .returned (.tuple #[.int .i64 b, .bool d]) := by rw [h1, h2]
theorem div_test {X Y : Nat} (hX : 1 ≤ X) : (1099511627776 : Int) / (X : Int) < (Y : Int) ↔ 1099511627776 < X * Y := by
  rw [Int.ediv_lt_iff_lt_mul (by omega), Int.mul_comm, ← Int.natCast_mul]; omega
theorem rmV_hi {x y : Int} {X Y : Nat} (hX : x.natAbs = X) (hY : y.natAbs = Y) (hm : 1099511627776 < X * Y) (v : Int) (hv : v = if decide (x < 0) = decide (y < 0) then 1099511627776 else -1099511627776) : rmV x y = v := by
  unfold rmV; rw [hX, hY, if_neg (by omega), hv]
theorem rmV_lo {x y : Int} {X Y : Nat} (hX : x.natAbs = X) (hY : y.natAbs = Y) (hm : ¬ 1099511627776 < X * Y) (v : Int) (hv : v = x * y) : rmV x y = v := by
  unfold rmV; rw [hX, hY, if_pos (by omega), hv]
theorem rmM_is {x y : Int} {X Y : Nat} (hX : x.natAbs = X) (hY : y.natAbs = Y) (m : Bool) (hm : decide (1099511627776 < X * Y) = m) : rmM x y = m := by unfold rmM; rw [hX, hY, hm]
theorem wrap_mul {X Y : Nat} (hm : ¬ 1099511627776 < X * Y) : wrap64 ((X : Int) * (Y : Int)) = (X : Int) * (Y : Int) := by
  rw [← Int.natCast_mul]; exact wrap_in (by omega) (by omega)
theorem wrap_mul_neg {X Y : Nat} (hm : ¬ 1099511627776 < X * Y) : wrap64 (-((X : Int) * (Y : Int))) = -((X : Int) * (Y : Int)) := by
  rw [← Int.natCast_mul]; exact wrap_in (by omega) (by omega)
set_option maxHeartbeats 4000000 in
theorem refmul_zero (a b y : Int) (p q : Bool) (hx : Aside0 (bnd a = 0)) (hp : Aside0 (met a = p)) (hy : Aside0 (bnd b = y)) (hq : Aside0 (met b = q)) (hb : -1099511627776 ≤ y ∧ y ≤ 1099511627776) (w : World) :
    Calls Try.prog 26 #[.int .i64 a, .int .i64 b] w fun e w' => e = .returned (.tuple #[.int .i64 (rmV 0 y), .bool (p || (q || rmM 0 y))]) ∧ w = w' := by
  have HM := Aside0.mk (rmM_is (x := 0) (y := y) (X := 0) rfl rfl false (by simp))
  have HV := Aside0.mk (show rmV 0 y = 0 by unfold rmV; simp)
  have HN := Aside0.mk (show ¬ 1099511627776 < 0 * 0 by simp)
  rcases (show y < 0 ∨ y = 0 ∨ 0 < y by omega) with h | rfl | h <;> (
    go_enter Try.func26, Try.ntmps26
    go_wp2_with fail
    refine (rbound_is a _ _ hx hp _).mono ?_
    rintro e w' ⟨rfl, rfl⟩
    go_wp2_with fail
    refine (rbound_is b _ _ hy hq _).mono ?_
    rintro e w' ⟨rfl, rfl⟩
    go_wp2
    all_goals (go_ret2; exact ⟨ret_ib (by first | (rw [HV.out]; done) | (rw [HV.out]; simp; done) | (rw [HV.out]; (try simp only [Int.neg_mul, Int.mul_neg, Int.neg_neg]); first | (rw [wrap_mul HN.out]; done) | (rw [wrap_mul HN.out, wrap_mul_neg HN.out]; done))) (by first | rfl | (rw [HM.out]; done) | (rw [HM.out]; simp [*]; done) | (simp [*]; done)), rfl⟩))
set_option maxHeartbeats 4000000 in
theorem refmul_hi (a b x y : Int) (p q : Bool) (hx : Aside0 (bnd a = x)) (hp : Aside0 (met a = p)) (hy : Aside0 (bnd b = y)) (hq : Aside0 (met b = q)) (X Y : Nat) (hX : X ≤ 1099511627776) (hY : Y ≤ 1099511627776) (h1 : 1 ≤ X) (h2 : 1 ≤ Y) (hm : 1099511627776 < X * Y)
    (cx : x = X ∨ x = -(X : Int)) (cy : y = Y ∨ y = -(Y : Int)) (w : World) :
    Calls Try.prog 26 #[.int .i64 a, .int .i64 b] w fun e w' => e = .returned (.tuple #[.int .i64 (rmV x y), .bool (p || (q || rmM x y))]) ∧ w = w' := by
  have ht : decide ((1099511627776 : Int) / (X : Int) < (Y : Int)) = true := decide_eq_true ((div_test h1).2 hm)
  have HM := Aside0.mk (rmM_is (x := x) (y := y) (X := X) (Y := Y) (by omega) (by omega) true (by simp [hm]))
  have HN := Aside0.mk (show ¬ 1099511627776 < 0 * 0 by simp)
  rcases cx with rfl | rfl <;> rcases cy with rfl | rfl
  · have HV := Aside0.mk (rmV_hi (x := X) (y := Y) (by omega) (by omega) hm 1099511627776 (by rw [if_pos]; simp; omega))
    clear hm
    go_enter Try.func26, Try.ntmps26
    go_wp2_with fail
    refine (rbound_is a _ _ hx hp _).mono ?_
    rintro e w' ⟨rfl, rfl⟩
    go_wp2_with fail
    refine (rbound_is b _ _ hy hq _).mono ?_
    rintro e w' ⟨rfl, rfl⟩
    go_wp2
    all_goals (go_ret2; exact ⟨ret_ib (by first | (rw [HV.out]; done) | (rw [HV.out]; simp; done) | (rw [HV.out]; (try simp only [Int.neg_mul, Int.mul_neg, Int.neg_neg]); first | (rw [wrap_mul HN.out]; done) | (rw [wrap_mul HN.out, wrap_mul_neg HN.out]; done))) (by first | rfl | (rw [HM.out]; done) | (rw [HM.out]; simp [*]; done) | (simp [*]; done)), rfl⟩)
  · have HV := Aside0.mk (rmV_hi (x := X) (y := -(Y : Int)) (by omega) (by omega) hm (-1099511627776) (by rw [if_neg]; simp; omega))
    clear hm
    go_enter Try.func26, Try.ntmps26
    go_wp2_with fail
    refine (rbound_is a _ _ hx hp _).mono ?_
    rintro e w' ⟨rfl, rfl⟩
    go_wp2_with fail
    refine (rbound_is b _ _ hy hq _).mono ?_
    rintro e w' ⟨rfl, rfl⟩
    go_wp2
    all_goals (go_ret2; exact ⟨ret_ib (by first | (rw [HV.out]; done) | (rw [HV.out]; simp; done) | (rw [HV.out]; (try simp only [Int.neg_mul, Int.mul_neg, Int.neg_neg]); first | (rw [wrap_mul HN.out]; done) | (rw [wrap_mul HN.out, wrap_mul_neg HN.out]; done))) (by first | rfl | (rw [HM.out]; done) | (rw [HM.out]; simp [*]; done) | (simp [*]; done)), rfl⟩)
  · have HV := Aside0.mk (rmV_hi (x := -(X : Int)) (y := Y) (by omega) (by omega) hm (-1099511627776) (by rw [if_neg]; simp; omega))
    clear hm
    go_enter Try.func26, Try.ntmps26
    go_wp2_with fail
    refine (rbound_is a _ _ hx hp _).mono ?_
    rintro e w' ⟨rfl, rfl⟩
    go_wp2_with fail
    refine (rbound_is b _ _ hy hq _).mono ?_
    rintro e w' ⟨rfl, rfl⟩
    go_wp2
    all_goals (go_ret2; exact ⟨ret_ib (by first | (rw [HV.out]; done) | (rw [HV.out]; simp; done) | (rw [HV.out]; (try simp only [Int.neg_mul, Int.mul_neg, Int.neg_neg]); first | (rw [wrap_mul HN.out]; done) | (rw [wrap_mul HN.out, wrap_mul_neg HN.out]; done))) (by first | rfl | (rw [HM.out]; done) | (rw [HM.out]; simp [*]; done) | (simp [*]; done)), rfl⟩)
  · have HV := Aside0.mk (rmV_hi (x := -(X : Int)) (y := -(Y : Int)) (by omega) (by omega) hm 1099511627776 (by rw [if_pos]; simp; omega))
    clear hm
    go_enter Try.func26, Try.ntmps26
    go_wp2_with fail
    refine (rbound_is a _ _ hx hp _).mono ?_
    rintro e w' ⟨rfl, rfl⟩
    go_wp2_with fail
    refine (rbound_is b _ _ hy hq _).mono ?_
    rintro e w' ⟨rfl, rfl⟩
    go_wp2
    all_goals (go_ret2; exact ⟨ret_ib (by first | (rw [HV.out]; done) | (rw [HV.out]; simp; done) | (rw [HV.out]; (try simp only [Int.neg_mul, Int.mul_neg, Int.neg_neg]); first | (rw [wrap_mul HN.out]; done) | (rw [wrap_mul HN.out, wrap_mul_neg HN.out]; done))) (by first | rfl | (rw [HM.out]; done) | (rw [HM.out]; simp [*]; done) | (simp [*]; done)), rfl⟩)
set_option maxHeartbeats 4000000 in
theorem refmul_lo (a b x y : Int) (p q : Bool) (hx : Aside0 (bnd a = x)) (hp : Aside0 (met a = p)) (hy : Aside0 (bnd b = y)) (hq : Aside0 (met b = q)) (X Y : Nat) (hX : X ≤ 1099511627776) (hY : Y ≤ 1099511627776) (h1 : 1 ≤ X) (hm : ¬ 1099511627776 < X * Y)
    (h2 : 1 ≤ Y) (cx : x = X ∨ x = -(X : Int)) (cy : y = Y ∨ y = -(Y : Int)) (w : World) :
    Calls Try.prog 26 #[.int .i64 a, .int .i64 b] w fun e w' => e = .returned (.tuple #[.int .i64 (rmV x y), .bool (p || (q || rmM x y))]) ∧ w = w' := by
  have ht : decide ((1099511627776 : Int) / (X : Int) < (Y : Int)) = false := decide_eq_false (fun h => hm ((div_test h1).1 h))
  have HM := Aside0.mk (rmM_is (x := x) (y := y) (X := X) (Y := Y) (by omega) (by omega) false (by simp; omega))
  have HN := Aside0.mk hm
  rcases cx with rfl | rfl <;> rcases cy with rfl | rfl
  · have HV := Aside0.mk (rmV_lo (x := X) (y := Y) (by omega) (by omega) hm _ rfl)
    clear hm
    go_enter Try.func26, Try.ntmps26
    go_wp2_with fail
    refine (rbound_is a _ _ hx hp _).mono ?_
    rintro e w' ⟨rfl, rfl⟩
    go_wp2_with fail
    refine (rbound_is b _ _ hy hq _).mono ?_
    rintro e w' ⟨rfl, rfl⟩
    go_wp2
    all_goals (go_ret2; exact ⟨ret_ib (by first | (rw [HV.out]; done) | (rw [HV.out]; simp; done) | (rw [HV.out]; (try simp only [Int.neg_mul, Int.mul_neg, Int.neg_neg]); first | (rw [wrap_mul HN.out]; done) | (rw [wrap_mul HN.out, wrap_mul_neg HN.out]; done))) (by first | rfl | (rw [HM.out]; done) | (rw [HM.out]; simp [*]; done) | (simp [*]; done)), rfl⟩)
  · have HV := Aside0.mk (rmV_lo (x := X) (y := -(Y : Int)) (by omega) (by omega) hm _ rfl)
    clear hm
    go_enter Try.func26, Try.ntmps26
    go_wp2_with fail
    refine (rbound_is a _ _ hx hp _).mono ?_
    rintro e w' ⟨rfl, rfl⟩
    go_wp2_with fail
    refine (rbound_is b _ _ hy hq _).mono ?_
    rintro e w' ⟨rfl, rfl⟩
    go_wp2
    all_goals (go_ret2; exact ⟨ret_ib (by first | (rw [HV.out]; done) | (rw [HV.out]; simp; done) | (rw [HV.out]; (try simp only [Int.neg_mul, Int.mul_neg, Int.neg_neg]); first | (rw [wrap_mul HN.out]; done) | (rw [wrap_mul HN.out, wrap_mul_neg HN.out]; done))) (by first | rfl | (rw [HM.out]; done) | (rw [HM.out]; simp [*]; done) | (simp [*]; done)), rfl⟩)
  · have HV := Aside0.mk (rmV_lo (x := -(X : Int)) (y := Y) (by omega) (by omega) hm _ rfl)
    clear hm
    go_enter Try.func26, Try.ntmps26
    go_wp2_with fail
    refine (rbound_is a _ _ hx hp _).mono ?_
    rintro e w' ⟨rfl, rfl⟩
    go_wp2_with fail
    refine (rbound_is b _ _ hy hq _).mono ?_
    rintro e w' ⟨rfl, rfl⟩
    go_wp2
    all_goals (go_ret2; exact ⟨ret_ib (by first | (rw [HV.out]; done) | (rw [HV.out]; simp; done) | (rw [HV.out]; (try simp only [Int.neg_mul, Int.mul_neg, Int.neg_neg]); first | (rw [wrap_mul HN.out]; done) | (rw [wrap_mul HN.out, wrap_mul_neg HN.out]; done))) (by first | rfl | (rw [HM.out]; done) | (rw [HM.out]; simp [*]; done) | (simp [*]; done)), rfl⟩)
  · have HV := Aside0.mk (rmV_lo (x := -(X : Int)) (y := -(Y : Int)) (by omega) (by omega) hm _ rfl)
    clear hm
    go_enter Try.func26, Try.ntmps26
    go_wp2_with fail
    refine (rbound_is a _ _ hx hp _).mono ?_
    rintro e w' ⟨rfl, rfl⟩
    go_wp2_with fail
    refine (rbound_is b _ _ hy hq _).mono ?_
    rintro e w' ⟨rfl, rfl⟩
    go_wp2
    all_goals (go_ret2; exact ⟨ret_ib (by first | (rw [HV.out]; done) | (rw [HV.out]; simp; done) | (rw [HV.out]; (try simp only [Int.neg_mul, Int.mul_neg, Int.neg_neg]); first | (rw [wrap_mul HN.out]; done) | (rw [wrap_mul HN.out, wrap_mul_neg HN.out]; done))) (by first | rfl | (rw [HM.out]; done) | (rw [HM.out]; simp [*]; done) | (simp [*]; done)), rfl⟩)

set_option maxHeartbeats 4000000 in
theorem refmul_yz (a b x : Int) (p q : Bool) (hx : Aside0 (bnd a = x)) (hp : Aside0 (met a = p)) (hy : Aside0 (bnd b = 0)) (hq : Aside0 (met b = q)) (X : Nat) (hX : X ≤ 1099511627776) (h1 : 1 ≤ X) (cx : x = X ∨ x = -(X : Int)) (w : World) :
    Calls Try.prog 26 #[.int .i64 a, .int .i64 b] w fun e w' => e = .returned (.tuple #[.int .i64 (rmV x 0), .bool (p || (q || rmM x 0))]) ∧ w = w' := by
  have ht : decide ((1099511627776 : Int) / (X : Int) < 0) = false := decide_eq_false (fun h => by
    have := Int.ediv_nonneg (a := 1099511627776) (b := (X : Int)) (by omega) (by omega)
    omega)
  have HM := Aside0.mk (rmM_is (x := x) (y := 0) (X := X) (Y := 0) (by omega) rfl false (by simp))
  have HV := Aside0.mk (show rmV x 0 = 0 by unfold rmV; simp)
  have HN := Aside0.mk (show ¬ 1099511627776 < 0 * 0 by simp)
  rcases cx with rfl | rfl
  · go_enter Try.func26, Try.ntmps26
    go_wp2_with fail
    refine (rbound_is a _ _ hx hp _).mono ?_
    rintro e w' ⟨rfl, rfl⟩
    go_wp2_with fail
    refine (rbound_is b _ _ hy hq _).mono ?_
    rintro e w' ⟨rfl, rfl⟩
    go_wp2
    all_goals (go_ret2; exact ⟨ret_ib (by first | (rw [HV.out]; done) | (rw [HV.out]; simp; done) | (rw [HV.out]; (try simp only [Int.neg_mul, Int.mul_neg, Int.neg_neg]); first | (rw [wrap_mul HN.out]; done) | (rw [wrap_mul HN.out, wrap_mul_neg HN.out]; done))) (by first | rfl | (rw [HM.out]; done) | (rw [HM.out]; simp [*]; done) | (simp [*]; done)), rfl⟩)
  · go_enter Try.func26, Try.ntmps26
    go_wp2_with fail
    refine (rbound_is a _ _ hx hp _).mono ?_
    rintro e w' ⟨rfl, rfl⟩
    go_wp2_with fail
    refine (rbound_is b _ _ hy hq _).mono ?_
    rintro e w' ⟨rfl, rfl⟩
    go_wp2
    all_goals (go_ret2; exact ⟨ret_ib (by first | (rw [HV.out]; done) | (rw [HV.out]; simp; done) | (rw [HV.out]; (try simp only [Int.neg_mul, Int.mul_neg, Int.neg_neg]); first | (rw [wrap_mul HN.out]; done) | (rw [wrap_mul HN.out, wrap_mul_neg HN.out]; done))) (by first | rfl | (rw [HM.out]; done) | (rw [HM.out]; simp [*]; done) | (simp [*]; done)), rfl⟩)

theorem refmul_any (a b : Int) (w : World) : Calls Try.prog 26 #[.int .i64 a, .int .i64 b] w fun e w' => e = .returned (.tuple #[.int .i64 (rmV (bnd a) (bnd b)), .bool (met a || (met b || rmM (bnd a) (bnd b)))]) ∧ w = w' := by
  have ha := bnd_in a
  have hb := bnd_in b
  obtain ⟨x, hx⟩ : ∃ x, bnd a = x := ⟨_, rfl⟩
  obtain ⟨y, hy⟩ : ∃ y, bnd b = y := ⟨_, rfl⟩
  rw [hx, hy]
  rw [hx] at ha
  rw [hy] at hb
  by_cases h0 : x = 0
  · subst h0; exact refmul_zero a b y _ _ ⟨hx⟩ ⟨rfl⟩ ⟨hy⟩ ⟨rfl⟩ hb w
  · by_cases h1 : y = 0
    · subst h1; exact refmul_yz a b x _ _ ⟨hx⟩ ⟨rfl⟩ ⟨hy⟩ ⟨rfl⟩ x.natAbs (by omega) (by omega) (by omega) w
    · by_cases hm : 1099511627776 < x.natAbs * y.natAbs
      · exact refmul_hi a b x y _ _ ⟨hx⟩ ⟨rfl⟩ ⟨hy⟩ ⟨rfl⟩ x.natAbs y.natAbs (by omega) (by omega) (by omega) (by omega) hm (by omega) (by omega) w
      · exact refmul_lo a b x y _ _ ⟨hx⟩ ⟨rfl⟩ ⟨hy⟩ ⟨rfl⟩ x.natAbs y.natAbs (by omega) (by omega) (by omega) hm (by omega) (by omega) (by omega) w
def paternosterref03_Mul.f (a0 : Int) (a1 : Int) : Option (Int × Bool) := some (rmV (bnd a0) (bnd a1), met a0 || (met a1 || rmM (bnd a0) (bnd a1)))
theorem paternosterref03_Mul.calls (a0 : Int) (a1 : Int) (r1 : Int) (r2 : Bool) (w : World) (h : paternosterref03_Mul.f a0 a1 = some (r1, r2)) :
    Calls Try.prog 26 #[.int .i64 a0, .int .i64 a1] w fun e w' => e = .returned (.tuple #[.int .i64 r1, .bool r2]) ∧ Drawn0 w w' := by
  simp only [paternosterref03_Mul.f, Option.some.injEq, Prod.mk.injEq] at h
  obtain ⟨rfl, rfl⟩ := h
  exact (refmul_any a0 a1 w).mono fun e w' ⟨h1, h2⟩ => ⟨h1, h2 ▸ Drawn0.refl _⟩
end Go.Proofs.Ytnhiokgkhbiflaa.X
