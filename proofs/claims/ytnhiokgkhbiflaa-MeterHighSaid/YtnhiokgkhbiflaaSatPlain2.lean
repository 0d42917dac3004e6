/- Plain facts on sums and products within bounds, and on the printed loops of layer 3. -/
import Derived.Test.YtnhiokgkhbiflaaSatPlain
import Derived.Test.YtnhiokgkhbiflaaRefMul
import Derived.Test.YtnhiokgkhbiflaaXx8
import Derived.Test.YtnhiokgkhbiflaaXx9
namespace Go.Proofs.Ytnhiokgkhbiflaa.X
open Go.RowKit Go.Proofs.YtnhiokgkhbiflaaW.PrintWords

theorem rbound_eq (x : Int) : paternosterref03_Bound.f x = some (bnd x, met x) := by
  unfold paternosterref03_Bound.f
  by_cases h1 : x > 1099511627776
  · rw [if_pos h1, bnd_hi (by omega), met_eq]; simp; omega
  · by_cases h2 : x < -1099511627776
    · rw [if_neg h1, if_pos h2, bnd_lo (by omega), met_eq]; simp; omega
    · rw [if_neg h1, if_neg h2, bnd_small (by omega) (by omega), met_false (by omega) (by omega)]
theorem radd_eq (a b : Int) : paternosterref03_Add.f a b = some (addV a b, addM a b) := by
  unfold paternosterref03_Add.f
  simp only [rbound_eq, Option.bind_some, addV, addM]
  cases met a <;> cases met b <;> simp
/-- One number more. -/
def stp (s : Int × Bool) (y : Int) : Int × Bool := (addV s.1 y, s.2 || addM s.1 y)
theorem sum_loop (l : List Int) (hl : l.length ≤ 4611686018427387904) (d : Nat) : ∀ (k : Nat) (x : Int) (m : Bool) (i : Int), 0 ≤ i → (l.length : Int) - i = d → d < k →
    sat_Sum.l0 k x m l (l.length : Int) i = some ((l.drop i.toNat).foldl stp (x, m)) := by
  induction d with
  | zero =>
    intro k x m i h0 hd hk
    obtain ⟨k, rfl⟩ : ∃ m, k = m + 1 := ⟨k - 1, by omega⟩
    simp only [sat_Sum.l0]; rw [if_neg (by omega), List.drop_eq_nil_of_le (by omega)]; rfl
  | succ d ih =>
    intro k x m i h0 hd hk
    obtain ⟨k, rfl⟩ : ∃ m, k = m + 1 := ⟨k - 1, by omega⟩
    have hlt : i.toNat < l.length := by omega
    have e : l.drop i.toNat = rd l i :: l.drop (i + 1).toNat := by
      rw [List.drop_eq_getElem_cons hlt, show (i + 1).toNat = i.toNat + 1 by omega]
      congr 1
      unfold rd; rw [List.getD_eq_getElem?_getD, List.getElem?_eq_getElem hlt]; rfl
    simp only [sat_Sum.l0]
    rw [if_pos (by omega), if_pos h0, if_pos (by omega), e, wrap_in (x := i + 1) (by omega) (by omega)]
    simp only [sat_Add.f, Option.bind_some, List.foldl_cons]
    cases m
    · rw [if_neg (by simp), ih k _ _ _ (by omega) (by omega) (by omega)]; simp [stp]
    · rw [if_pos rfl, ih k _ _ _ (by omega) (by omega) (by omega)]; simp [stp]
theorem sum_eq (l : List Int) (hl : l.length ≤ 4611686018427387904) (k : Nat) (hk : l.length < k) : sat_Sum.f k l = some (l.foldl stp (0, false)) := by
  unfold sat_Sum.f; rw [sum_loop l hl l.length k 0 false 0 (by omega) (by omega) hk]; simp
theorem prodC_lo {x y : Int} (h : x.natAbs * y.natAbs ≤ 1099511627776) : prodC x y = x * y := by
  unfold prodC sgn; rw [if_pos h]
  rcases Int.natAbs_eq x with hx | hx <;> rcases Int.natAbs_eq y with hy | hy
  all_goals
    generalize hX : x.natAbs = X at *
    generalize hY : y.natAbs = Y at *
    subst hx hy
  · rw [if_pos (by simp; omega), Int.natCast_mul]
  · by_cases h0 : Y = 0
    · subst h0; simp
    · rw [if_neg (by simp; omega), Int.natCast_mul, Int.mul_neg]
  · by_cases h0 : X = 0
    · subst h0; simp
    · rw [if_neg (by simp; omega), Int.natCast_mul, Int.neg_mul]
  · by_cases h0 : X = 0
    · subst h0; simp
    · by_cases h1 : Y = 0
      · subst h1; simp
      · rw [if_pos (by simp; omega), Int.natCast_mul, Int.neg_mul, Int.mul_neg, Int.neg_neg]
theorem prodC_hi {x y : Int} (h : ¬ x.natAbs * y.natAbs ≤ 1099511627776) : prodC x y = if decide (x < 0) = decide (y < 0) then 1099511627777 else -1099511627777 := by
  unfold prodC sgn; rw [if_neg h]
theorem mulV_eq (a b : Int) : mulV a b = rmV (bnd a) (bnd b) := by
  unfold mulV rmV
  generalize bnd a = x
  generalize bnd b = y
  by_cases h : x.natAbs * y.natAbs ≤ 1099511627776
  · rw [prodC_lo h, if_pos h]
    rw [← Int.natAbs_mul] at h
    exact bnd_small (by omega) (by omega)
  · rw [prodC_hi h, if_neg h]; split
    · exact bnd_hi (by omega)
    · exact bnd_lo (by omega)
theorem mulM_eq (a b : Int) : mulM a b = (met a || (met b || rmM (bnd a) (bnd b))) := by
  unfold mulM rmM
  generalize bnd a = x
  generalize bnd b = y
  congr 2
  by_cases h : x.natAbs * y.natAbs ≤ 1099511627776
  · rw [prodC_lo h, show decide (1099511627776 < x.natAbs * y.natAbs) = false from decide_eq_false (by omega)]
    rw [← Int.natAbs_mul] at h
    exact met_false (by omega) (by omega)
  · rw [prodC_hi h, show decide (1099511627776 < x.natAbs * y.natAbs) = true from decide_eq_true (by omega), met_eq]; split <;> simp
theorem awake3 (k : Nat) (hk : 3 ≤ k) : paternosterlaw03_awake.f k = some true := by
  unfold paternosterlaw03_awake.f
  rw [sum_eq _ (by simp) k (by simp; omega)]
  have e1 : sat_Add.f 1099511627776 1 = some (1099511627776, true) := by decide +kernel
  have e2 : sat_Mul.f (-4) 5 = some (-20, false) := by decide +kernel
  have e3 : ([2, 3] : List Int).foldl stp (0, false) = (5, false) := by decide +kernel
  rw [e1, e2, e3]; rfl
end Go.Proofs.Ytnhiokgkhbiflaa.X
