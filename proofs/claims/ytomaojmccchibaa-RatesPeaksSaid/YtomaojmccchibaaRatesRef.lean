/- The document's answers of layer 4, plainly. -/
import Derived.Test.YtomaojmccchibaaRatesPlain
import Derived.Test.YtomaojmccchibaaXx6
import Derived.Test.YtomaojmccchibaaXx6
import Derived.Test.YtomaojmccchibaaXx5
namespace Go.Proofs.Ytomaojmccchibaa.X
open Go.RowKit Go.Proofs.YtomaojmccchibaaW.PrintWords

theorem rheavy_f {r : S36} (h : Ok r) (load dir : Int) (k : Nat) (hk : 2 < k) : paternosterref04_heavy.f k r.f0 r.f1 r.f2 r.f3 r.f4 r.f5 load dir = some (hv r load dir) := by
  obtain ⟨k, rfl⟩ : ∃ m, k = m + 1 + 1 := ⟨k - 2, by omega⟩
  have h1 := cl_bd load
  have h2 := h.2.2.2.2.2
  have j1 : ∀ c, c = cl load → paternosterref04_heavy.j1 (k + 1) c dir r.f0 r.f1 r.f2 r.f3 r.f4 r.f5 = some (hv r load dir) := by
    intro c hc
    simp only [paternosterref04_heavy.j1]
    unfold hv
    rw [hc, wrap_in (x := cl load - r.f5) (by omega) (by omega), wrap_in (x := r.f5 - cl load) (by omega) (by omega)]
    split
    · rfl
    · split <;> rfl
  unfold paternosterref04_heavy.f
  simp only [paternosterref04_heavy.j0]
  unfold cl mn mx at j1
  by_cases c1 : load < 0
  · rw [if_pos c1, if_neg (by omega)]; exact j1 0 (by rw [if_pos c1]; rfl)
  · rw [if_neg c1]
    by_cases c2 : load > 64
    · rw [if_pos c2]; exact j1 64 (by rw [if_neg c1]; split <;> omega)
    · rw [if_neg c2]; exact j1 load (by rw [if_neg c1]; split <;> omega)
theorem rdraw_f {r : S36} (h : Ok r) (what load dir : Int) (k : Nat) (hk : 3 < k) : paternosterref04_Draw.f k r.f0 r.f1 r.f2 r.f3 r.f4 r.f5 what load dir = some (dv r what load dir) := by
  obtain ⟨k, rfl⟩ : ∃ m, k = m + 1 := ⟨k - 1, by omega⟩
  have hp := pull_bd h (hv_bd h load dir).2
  have hpos : hv r load dir > 0 → mx (hv r load dir) 0 = hv r load dir := fun hh => by unfold mx; rw [if_neg (by omega)]
  have hneg : ¬ hv r load dir > 0 → mx (hv r load dir) 0 = 0 := fun hh => by unfold mx; split <;> omega
  have hr := rheavy_f h load dir k (by omega)
  obtain ⟨a0, a1, a2, a4, a3, a5⟩ := h
  unfold paternosterref04_Draw.f dv
  simp only [paternosterref04_Draw.j0]
  by_cases c1 : what = 4
  · rw [if_pos c1, if_pos c1]
  · rw [if_neg c1, if_neg c1]
    by_cases c3 : what < 1
    · rw [if_pos c3, if_pos (show True from trivial)]
      split
      · rfl
      · rw [if_pos (show what ≤ 0 by omega)]
    · rw [if_neg c3]
      by_cases c4 : what > 3
      · rw [if_pos c4, if_pos (show True from trivial)]
        split
        · rfl
        · rw [if_neg (show ¬ what ≤ 0 by omega), if_pos (show what > 4 by omega)]
      · rw [if_neg c4]
        by_cases c2 : dir = 0
        · rw [if_pos c2, if_pos (by simpa using c2)]
        · rw [if_neg c2, if_neg (by simpa using c2), if_neg (show ¬ what ≤ 0 by omega), if_neg (show ¬ what > 4 by omega), hr]
          simp only [Option.bind_some]
          by_cases c5 : hv r load dir > 0
          · rw [if_pos c5]
            rw [hpos c5] at hp ⊢
            generalize r.f3 * hv r load dir = q at hp
            rw [wrap_in (x := q) (by omega) (by omega), wrap_in (x := r.f0 + r.f1) (by omega) (by omega), wrap_in (x := r.f0 + r.f1 + q) (by omega) (by omega), wrap_in (x := r.f0 + r.f1 + q + r.f2) (by omega) (by omega)]
            split <;> rfl
          · rw [if_neg c5, hneg c5, Int.mul_zero]
            simp only [wrap_in (x := r.f0 + r.f1) (by omega) (by omega), wrap_in (x := r.f0 + r.f1 + r.f2) (by omega) (by omega)]
            by_cases c6 : what = 1
            · rw [if_pos c6, if_pos c6]; congr 1; omega
            · rw [if_neg c6, if_neg c6]; congr 1; omega
theorem rgives_f {r : S36} (h : Ok r) (what load dir : Int) (k : Nat) (hk : 2 < k) : paternosterref04_Gives.f k r.f0 r.f1 r.f2 r.f3 r.f4 r.f5 what load dir = some (gv r what load dir) := by
  have hb := hv_bd h load dir
  have hp := pull_bd h (x := -hv r load dir) (by omega)
  unfold paternosterref04_Gives.f gv
  rw [rheavy_f h load dir k hk]
  simp only [Option.bind_some]
  have key : (if hv r load dir > 0 then some 0 else some (wrap64 (wrap64 (-hv r load dir) * r.f3))) = some (r.f3 * mx (-hv r load dir) 0) := by
    by_cases c : hv r load dir > 0
    · rw [if_pos c]
      have : mx (-hv r load dir) 0 = 0 := by unfold mx; rw [if_pos (by omega)]
      rw [this, Int.mul_zero]
    · rw [if_neg c, wrap_in (x := -hv r load dir) (by omega) (by omega)]
      have e : mx (-hv r load dir) 0 = -hv r load dir := by unfold mx; split <;> omega
      rw [e] at hp ⊢
      rw [Int.mul_comm] at hp
      rw [wrap_in (x := -hv r load dir * r.f3) (by omega) (by omega), Int.mul_comm]
  rw [key]
  split
  · rfl
  · split <;> rfl
end Go.Proofs.Ytomaojmccchibaa.X
