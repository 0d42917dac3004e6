/- SatOrders: numbers of which no sum meets a bound have the same sum the other way round, and parted anywhere. No condition. -/
import Derived.Test.YtnhiokgkhbiflaaXx12
import Derived.Test.YtnhiokgkhbiflaaSatPlain2
namespace Go.Proofs.Ytnhiokgkhbiflaa.Pure
open Go.RowKit Go.Proofs.Ytnhiokgkhbiflaa.X Go.Proofs.YtnhiokgkhbiflaaW.PrintWords Go.Proofs.YtnhiokgkhbiflaaW.PrintLast

def lsum : List Int → Int
  | [] => 0
  | x :: l => x + lsum l
theorem lsum_append (a b : List Int) : lsum (a ++ b) = lsum a + lsum b := by
  induction a with
  | nil => simp [lsum]
  | cons x a ih => simp only [List.cons_append, lsum, ih]; omega
theorem lsum_reverse (a : List Int) : lsum a.reverse = lsum a := by
  induction a with
  | nil => rfl
  | cons x a ih => simp only [List.reverse_cons, lsum_append, ih, lsum]; omega
def Small (l : List Int) : Prop := ∀ y ∈ l, -2147483648 ≤ y ∧ y ≤ 2147483648
theorem lsum_bound (l : List Int) (h : Small l) : -(l.length * 2147483648 : Int) ≤ lsum l ∧ lsum l ≤ l.length * 2147483648 := by
  induction l with
  | nil => simp [lsum]
  | cons x l ih =>
    have h1 := h x (by simp)
    have h2 := ih (fun y hy => h y (by simp [hy]))
    simp only [lsum, List.length_cons]; omega
theorem fold_small (l : List Int) : ∀ x : Int, Small l → -(1099511627776 - (l.length * 2147483648 : Int)) ≤ x → x ≤ 1099511627776 - (l.length * 2147483648 : Int) → l.foldl stp (x, false) = (x + lsum l, false) := by
  induction l with
  | nil => intro x _ _ _; simp [lsum]
  | cons y l ih =>
    intro x h h1 h2
    have hy := h y (by simp)
    simp only [List.length_cons] at h1 h2
    have e : stp (x, false) y = (x + y, false) := by
      unfold stp addM
      simp only [addV_eq]
      rw [bnd_small (x := x) (by omega) (by omega), bnd_small (x := y) (by omega) (by omega), bnd_small (by omega) (by omega), met_false (x := x) (by omega) (by omega), met_false (x := y) (by omega) (by omega), wrap_in (by omega) (by omega), met_false (by omega) (by omega)]
      rfl
    rw [List.foldl_cons, e, ih (x + y) (fun z hz => h z (by simp [hz])) (by omega) (by omega)]
    simp only [lsum]; rw [Int.add_assoc]
theorem sum_small (l : List Int) (h : Small l) (hl : l.length ≤ 200) (k : Nat) (hk : 200 < k) : sat_Sum.f k l = some (lsum l, false) := by
  rw [sum_eq l (by omega) k (by omega), fold_small l 0 h (by omega) (by omega), Int.zero_add]
theorem rd_get {l : List Int} {i : Int} (h : i.toNat < l.length) : rd l i = l[i.toNat] := by
  unfold rd; rw [List.getD_eq_getElem?_getD, List.getElem?_eq_getElem h]; rfl

theorem orders_loop (l : List Int) (t : Int) (ht : 0 ≤ t ∧ t ≤ 255) (hl : l.length ≤ 200) (hs : Small l) (d : Nat) : ∀ (k : Nat) (i : Int), 0 ≤ i → (l.length : Int) - i = d → d + 201 < k →
    paternosterlaw03_SatOrders.l0 k l t (l.take i.toNat) (l.reverse.take i.toNat) (lsum (l.take i.toNat)) i = some true := by
  induction d with
  | zero =>
    intro k i h0 hd hk
    obtain ⟨k, rfl⟩ : ∃ m, k = m + 1 := ⟨k - 1, by omega⟩
    obtain rfl : i = (l.length : Int) := by omega
    have hb := lsum_bound l hs
    simp only [paternosterlaw03_SatOrders.l0]
    rw [if_neg (by omega), Int.toNat_natCast, List.take_of_length_le (Nat.le_refl _), List.take_of_length_le (by simp), wrap_in (x := t) (by omega) (by omega), wrap_in (x := (l.length : Int) + 1) (by omega) (by omega), if_neg (by omega)]
    obtain ⟨j, hj, hj0, hj1⟩ : ∃ j, Int.tmod t ((l.length : Int) + 1) = j ∧ 0 ≤ j ∧ j ≤ l.length := by
      rw [Int.tmod_eq_emod_of_nonneg (by omega)]
      have := Int.emod_lt_of_pos t (show 0 < (l.length : Int) + 1 by omega)
      exact ⟨_, rfl, Int.emod_nonneg _ (by omega), by omega⟩
    have e := lsum_append (l.take j.toNat) (l.drop j.toNat)
    rw [List.take_append_drop] at e
    rw [hj, sum_small l hs hl k (by omega), sum_small l.reverse (fun y hy => hs y (by simpa using hy)) (by simp; omega) k (by omega),
      sum_small (l.take j.toNat) (fun y hy => hs y (List.mem_of_mem_take hy)) (by simp; omega) k (by omega), sum_small (l.drop j.toNat) (fun y hy => hs y (List.mem_of_mem_drop hy)) (by simp; omega) k (by omega), lsum_reverse]
    simp only [Option.bind_some, if_true]
    rw [if_pos hj0, if_pos hj1, ← e, wrap_in (by omega) (by omega)]
    simp
  | succ d ih =>
    intro k i h0 hd hk
    obtain ⟨k, rfl⟩ : ∃ m, k = m + 1 := ⟨k - 1, by omega⟩
    have hi : i.toNat < l.length := by omega
    have hr : ((l.length : Int) - 1 - i).toNat < l.length := by omega
    have hm := hs _ (List.getElem_mem hi)
    have hm2 := hs _ (List.getElem_mem hr)
    have e1 : l.take i.toNat ++ [l[i.toNat]] = l.take (i + 1).toNat := by rw [show (i + 1).toNat = i.toNat + 1 by omega, List.take_succ_eq_append_getElem hi]
    have e2 : l.reverse.take i.toNat ++ [l[((l.length : Int) - 1 - i).toNat]] = l.reverse.take (i + 1).toNat := by
      rw [show (i + 1).toNat = i.toNat + 1 by omega, List.take_succ_eq_append_getElem (by simpa using hi), List.getElem_reverse]
      congr 3; omega
    have e3 : lsum (l.take i.toNat) + l[i.toNat] = lsum (l.take (i + 1).toNat) := by rw [← e1, lsum_append]; simp [lsum]
    have hb := lsum_bound (l.take (i + 1).toNat) (fun y hy => hs y (List.mem_of_mem_take hy))
    have hlen : (l.take (i + 1).toNat).length ≤ 200 := by simp; omega
    simp only [paternosterlaw03_SatOrders.l0]
    rw [if_pos (by omega), if_pos h0, if_pos (by simp; omega), wrap_in (x := (l.length : Int) - 1) (by omega) (by omega), wrap_in (x := (l.length : Int) - 1 - i) (by omega) (by omega), if_pos (by omega), if_pos (by omega), if_pos (by simp; omega),
      rd_get hi, rd_get hr, wrap_in (x := l[i.toNat]) (by omega) (by omega), wrap_in (x := l[((l.length : Int) - 1 - i).toNat]) (by omega) (by omega), e1, e2, e3, wrap_in (x := lsum _) (by omega) (by omega), wrap_in (x := i + 1) (by omega) (by omega)]
    exact ih k (i + 1) (by omega) (by omega) (by omega)
theorem SatOrders : paternosterlaw03_SatOrders.Pure := by
  intro l t _ _ hx ht
  have ht := bounds_u8 ht
  refine ⟨500, ?_⟩
  unfold paternosterlaw03_SatOrders.f
  rw [awake3 _ (by omega)]
  simp only [Option.bind_some, if_true]
  by_cases h : (l.length : Int) > 200
  · rw [if_pos h]
  · rw [if_neg h]
    have := orders_loop l t (by omega) (by omega) (fun y hy => by have := bounds_i32 (hx y hy); omega) l.length 500 0 (by omega) (by omega) (by omega)
    simpa [lsum] using this
end Go.Proofs.Ytnhiokgkhbiflaa.Pure
