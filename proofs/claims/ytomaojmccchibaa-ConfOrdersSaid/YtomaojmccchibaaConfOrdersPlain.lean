/- A group with the same order the other way round, or begun elsewhere, may be just as well, and takes as long. -/
import Derived.Test.YtomaojmccchibaaConfPerm
import Derived.Test.YtomaojmccchibaaXx18
namespace Go.Proofs.Ytomaojmccchibaa.X
open Go.RowKit Go.Proofs.YtomaojmccchibaaW.PrintWords Go.Proofs.YtomaojmccchibaaW.PrintLast Go.Proofs.YtomaojmccchibaaW.PrintMore
set_option linter.unusedVariables false
set_option linter.unusedSimpArgs false
section
variable (l : List S38) (x1 x2 : Int) (o : List Int) (x4 x5 x6 x7 x8 x9 x10 x11 x12 : Int)
theorem orders_end (k : Nat) (hk : 40 ≤ k) (b : Int) (a d : List Int) (ha : o.Perm a) (hd : o.Perm d) (is : Bool) (his : checkV l x1 x2 o x4 x5 x6 x7 x8 x9 x10 x11 x12 = is) :
    paternosterlaw05_ConfOrders.j2 k b is false l x1 x2 o x4 x5 x6 x7 x8 x9 x10 x11 x12 l x1 x2 a x4 x5 x6 x7 x8 x9 x10 x11 x12 l x1 x2 d x4 x5 x6 x7 x8 x9 x10 x11 x12 = some true := by
  obtain ⟨k, rfl⟩ : ∃ n, k = n + 1 := ⟨k - 1, by omega⟩
  simp only [paternosterlaw05_ConfOrders.j2]
  rw [if_neg (by simp)]
  cases is with
  | false => simp
  | true =>
    have h := check_iff.1 his
    have h1 := check_iff.1 ((checkV_perm ha).symm.trans his)
    have h2 := check_iff.1 ((checkV_perm hd).symm.trans his)
    simp only [h.limit_f k (by omega), h1.limit_f k (by omega), h.back_f k (by omega), h2.back_f k (by omega), Option.bind_some]
    simp
theorem orders_loop (kk : Nat) (hkk : kk < o.length) (ho : o.length ≤ 100) (b : Int) (m : Nat) : ∀ (k i : Nat), i + m = o.length → m + 50 ≤ k →
    paternosterlaw05_ConfOrders.l0 k b (o.length : Int) (kk : Int) (i : Int) l x1 x2 o x4 x5 x6 x7 x8 x9 x10 x11 x12 l x1 x2 (o.reverse.take i) x4 x5 x6 x7 x8 x9 x10 x11 x12 l x1 x2 ((rotL o kk).take i) x4 x5 x6 x7 x8 x9 x10 x11 x12 = some true := by
  induction m with
  | zero =>
    intro k i hi hk
    obtain ⟨k, rfl⟩ : ∃ n, k = n + 1 := ⟨k - 1, by omega⟩
    have r1 := (List.reverse_perm o).symm
    have r2 := rotL_perm o kk
    rw [List.take_of_length_le (by rw [List.length_reverse]; omega), List.take_of_length_le (by rw [rotL_len]; omega)]
    simp only [paternosterlaw05_ConfOrders.l0]
    rw [if_neg (by omega), chk_f ho, chk_f (by rw [← r1.length_eq]; omega), chk_f (by rw [← r2.length_eq]; omega)]
    simp only [Option.bind_some]
    rw [← checkV_perm r1, ← checkV_perm r2, bne_self_eq_false, if_neg (by simp)]
    exact orders_end l x1 x2 o x4 x5 x6 x7 x8 x9 x10 x11 x12 k (by omega) b _ _ r1 r2 _ rfl
  | succ m ih =>
    intro k i hi hk
    obtain ⟨k, rfl⟩ : ∃ n, k = n + 1 := ⟨k - 1, by omega⟩
    have e1 : o.reverse.take (i + 1) = o.reverse.take i ++ [rd o ((o.length : Int) - 1 - i)] := by
      rw [List.take_succ_eq_append_getElem (by rw [List.length_reverse]; omega), List.getElem_reverse]
      have := rdI_at (l := o) (k := o.length - 1 - i) (by omega)
      rw [← this, show ((o.length - 1 - i : Nat) : Int) = (o.length : Int) - 1 - i by omega]
    have e2 : (rotL o kk).take (i + 1) = (rotL o kk).take i ++ [rd o (Int.tmod ((i : Int) + kk) (o.length : Int))] := by
      have hr : i < (rotL o kk).length := by rw [rotL_len]; omega
      rw [List.take_succ_eq_append_getElem hr, rotL_at hkk (by omega) hr]
      congr 3
    have m0 : 0 ≤ Int.tmod ((i : Int) + kk) (o.length : Int) := Int.tmod_nonneg _ (by omega)
    have m1 : Int.tmod ((i : Int) + kk) (o.length : Int) < (o.length : Int) := Int.tmod_lt_of_pos _ (by omega)
    simp only [paternosterlaw05_ConfOrders.l0]
    rw [w64 (x := (o.length : Int) - 1) (by omega) (by omega), w64 (x := (o.length : Int) - 1 - i) (by omega) (by omega), w64 (x := (i : Int) + kk) (by omega) (by omega), w64 (x := (i : Int) + 1) (by omega) (by omega)]
    rw [if_pos (by omega), if_pos (by omega), if_pos (by omega), if_pos (by rw [List.length_take]; omega), if_neg (by omega), if_pos m0, if_pos m1, if_pos (by rw [List.length_take]; omega)]
    rw [← e1, ← e2]
    exact ih k (i + 1) (by omega) (by omega)
theorem orders_true (at_ b : Int) (h0 : 0 ≤ at_) (h1 : at_ ≤ 255) : paternosterlaw05_ConfOrders.f 400 l x1 x2 o x4 x5 x6 x7 x8 x9 x10 x11 x12 at_ b = some true := by
  unfold paternosterlaw05_ConfOrders.f paternosterlaw05_awake.f
  rw [Option.bind_some, if_pos rfl, small_f, Option.bind_some]
  by_cases hs : (decide (l.length ≤ 12) && decide (o.length ≤ 100)) = true
  · rw [if_pos hs]
    simp only [Bool.and_eq_true, decide_eq_true_eq] at hs
    simp only [paternosterlaw05_ConfOrders.j0]
    by_cases hz : o.length = 0
    · rw [if_pos (by rw [hz]; rfl)]
    · rw [if_neg (by simp; intro h; exact hz (by rw [h]; rfl)), if_neg (by omega), w64 (x := at_) (by omega) (by omega)]
      have m0 : 0 ≤ Int.tmod at_ (o.length : Int) := Int.tmod_nonneg _ (by omega)
      have m1 : Int.tmod at_ (o.length : Int) < (o.length : Int) := Int.tmod_lt_of_pos _ (by omega)
      obtain ⟨kk, hkk⟩ : ∃ kk : Nat, Int.tmod at_ (o.length : Int) = kk := ⟨(Int.tmod at_ (o.length : Int)).toNat, by omega⟩
      rw [hkk] at m1 ⊢
      exact orders_loop l x1 x2 o x4 x5 x6 x7 x8 x9 x10 x11 x12 kk (by omega) hs.2 b o.length 399 0 (by omega) (by omega)
  · rw [if_neg hs]; simp [paternosterlaw05_ConfOrders.j0]
end
end Go.Proofs.Ytomaojmccchibaa.X
