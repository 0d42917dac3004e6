/- Plain facts on the bounded sums that the contracts of sat and cell speak of. -/
import Derived.Test.YtnhiokgkhbiflaaCellExt
import Derived.OpenShut
namespace Go.Proofs.Ytnhiokgkhbiflaa.X
open Go.RowKit Go.Proofs.YtnhiokgkhbiflaaW.PrintWords

theorem bnd_small {x : Int} (h0 : -1099511627776 ≤ x) (h1 : x ≤ 1099511627776) : bnd x = x := by unfold bnd mx mn; split <;> split <;> omega
theorem bnd_hi {x : Int} (h1 : 1099511627776 ≤ x) : bnd x = 1099511627776 := by unfold bnd mx mn; split <;> split <;> omega
theorem bnd_lo {x : Int} (h1 : x ≤ -1099511627776) : bnd x = -1099511627776 := by unfold bnd mx mn; split <;> split <;> omega
theorem wrap_in {x : Int} (h0 : -9223372036854775808 ≤ x) (h1 : x ≤ 9223372036854775807) : wrap64 x = x := by unfold wrap64; omega
theorem addV_eq (a b : Int) : addV a b = bnd (bnd a + bnd b) := by
  unfold addV; have := bnd_in a; have := bnd_in b; rw [wrap_in (by omega) (by omega)]
theorem met_false {x : Int} (h0 : -1099511627776 ≤ x) (h1 : x ≤ 1099511627776) : met x = false := by unfold met; rw [bnd_small h0 h1]; simp
theorem met_eq (x : Int) : met x = !(decide (-1099511627776 ≤ x) && decide (x ≤ 1099511627776)) := by
  by_cases h0 : -1099511627776 ≤ x <;> by_cases h1 : x ≤ 1099511627776
  · rw [met_false h0 h1]; simp [h0, h1]
  · unfold met; rw [bnd_hi (by omega)]; simp [h0, h1]; omega
  · unfold met; rw [bnd_lo (by omega)]; simp [h0, h1]; omega
  · omega
theorem fill_eq {h f n : Int} (h0 : 0 ≤ h) (h1 : h ≤ f) (h2 : f ≤ 1048576) : withV (upV h n) f = mn (h + mx n 0) f := by
  unfold upV; rw [addV_eq, bnd_small (x := h) (by omega) (by omega)]
  by_cases hn : n ≤ 1099511627776
  · rw [bnd_small (x := mx n 0) (by unfold mx; split <;> omega) (by unfold mx; split <;> omega)]
    by_cases hs : h + mx n 0 ≤ 1099511627776
    · rw [bnd_small (by unfold mx; split <;> omega) hs]; unfold withV mn mx; repeat' split
      all_goals omega
    · rw [bnd_hi (by omega)]; unfold withV mn mx at *; revert hs; repeat' split
      all_goals omega
  · rw [bnd_hi (x := mx n 0) (by unfold mx; split <;> omega), bnd_hi (by omega)]; unfold withV mn mx; repeat' split
    all_goals omega
theorem down_eq {h f n : Int} (h0 : 0 ≤ h) (h1 : h ≤ f) (h2 : f ≤ 1048576) (hn : n ≤ h) : withV (downV h n) f = h - mx n 0 := by
  have e : mx n 0 ≤ h ∧ 0 ≤ mx n 0 := by unfold mx; split <;> omega
  unfold downV; rw [addV_eq, bnd_small (x := h) (by omega) (by omega), wrap_in (by omega) (by omega), bnd_small (x := -(mx n 0)) (by omega) (by omega), bnd_small (by omega) (by omega)]
  generalize mx n 0 = m at *
  unfold withV mn mx; repeat' split
  all_goals omega
theorem spend_eq {h f n : Int} (h0 : 0 ≤ h) (h1 : h ≤ f) (h2 : f ≤ 1048576) : cell_Cell_Spend.f h f n = some (if n ≤ h then (h - mx n 0, f, true) else (h, f, false)) := by
  unfold cell_Cell_Spend.f spendF
  by_cases hn : n ≤ h
  · rw [if_pos hn, if_pos hn, down_eq h0 h1 h2 hn]
  · rw [if_neg hn, if_neg hn]
theorem fillf_eq {h f n : Int} (h0 : 0 ≤ h) (h1 : h ≤ f) (h2 : f ≤ 1048576) : cell_Cell_Fill.f h f n = some (mn (h + mx n 0) f, f) := by
  unfold cell_Cell_Fill.f; rw [fill_eq h0 h1 h2]
end Go.Proofs.Ytnhiokgkhbiflaa.X
