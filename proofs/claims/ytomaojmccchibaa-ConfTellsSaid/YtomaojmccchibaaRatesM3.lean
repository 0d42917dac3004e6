/- Texts of this seat in one: RatesRef, RatesRef2. -/
import Derived.Test.YtomaojmccchibaaRatesPlain
import Derived.Test.YtomaojmccchibaaXx6
import Derived.Test.YtomaojmccchibaaXx5
import Derived.Test.YtomaojmccchibaaXx23
import Derived.Test.YtomaojmccchibaaXx24
/- The document's answers of layer 4, plainly. -/
namespace Go.Proofs.Ytomaojmccchibaa.X
open Go.RowKit Go.Proofs.YtomaojmccchibaaW.PrintWords

theorem rheavy_f {r : S36} (h : Ok r) (load dir : Int) (k : Nat) (hk : 2 < k) : paternosterref04_heavy.f k r.f0 r.f1 r.f2 r.f3 r.f4 r.f5 load dir = some (hv r load dir) := by
  obtain ⟨k, rfl⟩ : ∃ m, k = m + 1 + 1 := ⟨k - 2, by omega⟩
  have h1 := cl_bd load
  have h2 := h.2.2.2.2.2
  have j1 : ∀ c, c = cl load → paternosterref04_heavy.j1 (k + 1) c dir r.f0 r.f1 r.f2 r.f3 r.f4 r.f5 = some (hv r load dir) := by
    intro c hc
    simp only [paternosterref04_heavy.j1]
    unfold hv
    rw [hc, wrap_in (x := cl load - r.f5) (by omega) (by omega), wrap_in (x := r.f5 - cl load) (by omega) (by omega)]
    split
    · rfl
    · split <;> rfl
  unfold paternosterref04_heavy.f
  simp only [paternosterref04_heavy.j0]
  unfold cl mn mx at j1
  by_cases c1 : load < 0
  · rw [if_pos c1, if_neg (by omega)]; exact j1 0 (by rw [if_pos c1]; rfl)
  · rw [if_neg c1]
    by_cases c2 : load > 64
    · rw [if_pos c2]; exact j1 64 (by rw [if_neg c1]; split <;> omega)
    · rw [if_neg c2]; exact j1 load (by rw [if_neg c1]; split <;> omega)
theorem rdraw_f {r : S36} (h : Ok r) (what load dir : Int) (k : Nat) (hk : 3 < k) : paternosterref04_Draw.f k r.f0 r.f1 r.f2 r.f3 r.f4 r.f5 what load dir = some (dv r what load dir) := by
  obtain ⟨k, rfl⟩ : ∃ m, k = m + 1 := ⟨k - 1, by omega⟩
  have hp := pull_bd h (hv_bd h load dir).2
  have hpos : hv r load dir > 0 → mx (hv r load dir) 0 = hv r load dir := fun hh => by unfold mx; rw [if_neg (by omega)]
  have hneg : ¬ hv r load dir > 0 → mx (hv r load dir) 0 = 0 := fun hh => by unfold mx; split <;> omega
  have hr := rheavy_f h load dir k (by omega)
  obtain ⟨a0, a1, a2, a4, a3, a5⟩ := h
  unfold paternosterref04_Draw.f dv
  simp only [paternosterref04_Draw.j0]
  by_cases c1 : what = 4
  · rw [if_pos c1, if_pos c1]
  · rw [if_neg c1, if_neg c1]
    by_cases c3 : what < 1
    · rw [if_pos c3, if_pos (show True from trivial)]
      split
      · rfl
      · rw [if_pos (show what ≤ 0 by omega)]
    · rw [if_neg c3]
      by_cases c4 : what > 3
      · rw [if_pos c4, if_pos (show True from trivial)]
        split
        · rfl
        · rw [if_neg (show ¬ what ≤ 0 by omega), if_pos (show what > 4 by omega)]
      · rw [if_neg c4]
        by_cases c2 : dir = 0
        · rw [if_pos c2, if_pos (by simpa using c2)]
        · rw [if_neg c2, if_neg (by simpa using c2), if_neg (show ¬ what ≤ 0 by omega), if_neg (show ¬ what > 4 by omega), hr]
          simp only [Option.bind_some]
          by_cases c5 : hv r load dir > 0
          · rw [if_pos c5]
            rw [hpos c5] at hp ⊢
            generalize r.f3 * hv r load dir = q at hp
            rw [wrap_in (x := q) (by omega) (by omega), wrap_in (x := r.f0 + r.f1) (by omega) (by omega), wrap_in (x := r.f0 + r.f1 + q) (by omega) (by omega), wrap_in (x := r.f0 + r.f1 + q + r.f2) (by omega) (by omega)]
            split <;> rfl
          · rw [if_neg c5, hneg c5, Int.mul_zero]
            simp only [wrap_in (x := r.f0 + r.f1) (by omega) (by omega), wrap_in (x := r.f0 + r.f1 + r.f2) (by omega) (by omega)]
            by_cases c6 : what = 1
            · rw [if_pos c6, if_pos c6]; congr 1; omega
            · rw [if_neg c6, if_neg c6]; congr 1; omega
theorem rgives_f {r : S36} (h : Ok r) (what load dir : Int) (k : Nat) (hk : 2 < k) : paternosterref04_Gives.f k r.f0 r.f1 r.f2 r.f3 r.f4 r.f5 what load dir = some (gv r what load dir) := by
  have hb := hv_bd h load dir
  have hp := pull_bd h (x := -hv r load dir) (by omega)
  unfold paternosterref04_Gives.f gv
  rw [rheavy_f h load dir k hk]
  simp only [Option.bind_some]
  have key : (if hv r load dir > 0 then some 0 else some (wrap64 (wrap64 (-hv r load dir) * r.f3))) = some (r.f3 * mx (-hv r load dir) 0) := by
    by_cases c : hv r load dir > 0
    · rw [if_pos c]
      have : mx (-hv r load dir) 0 = 0 := by unfold mx; rw [if_pos (by omega)]
      rw [this, Int.mul_zero]
    · rw [if_neg c, wrap_in (x := -hv r load dir) (by omega) (by omega)]
      have e : mx (-hv r load dir) 0 = -hv r load dir := by unfold mx; split <;> omega
      rw [e] at hp ⊢
      rw [Int.mul_comm] at hp
      rw [wrap_in (x := -hv r load dir * r.f3) (by omega) (by omega), Int.mul_comm]
  rw [key]
  split
  · rfl
  · split <;> rfl
end Go.Proofs.Ytomaojmccchibaa.X
/- The document's peaks, and their most, plainly. -/
namespace Go.Proofs.Ytomaojmccchibaa.X
open Go.RowKit Go.Proofs.YtomaojmccchibaaW.PrintWords

theorem rpeak_step {r : S36} (h : Ok r) (load dir x what : Int) (k : Nat) (hk : 3 < k) (hw : 0 ≤ what) (hw5 : what < 5) :
    paternosterref04_Peak.l0 (k + 1) load dir x what r.f0 r.f1 r.f2 r.f3 r.f4 r.f5 = paternosterref04_Peak.l0 k load dir (mx x (dv r what load dir)) (what + 1) r.f0 r.f1 r.f2 r.f3 r.f4 r.f5 := by
  simp only [paternosterref04_Peak.l0]
  rw [if_pos hw5, rdraw_f h what load dir k hk, wrap_in (by omega) (by omega)]
  simp only [Option.bind_some]
  unfold mx
  by_cases c : dv r what load dir > x
  · rw [if_pos c, if_pos (show x < dv r what load dir from c)]
  · rw [if_neg c, if_neg (show ¬ x < dv r what load dir from c)]
theorem rpeak_f {r : S36} (h : Ok r) (load dir : Int) (k : Nat) (hk : 10 < k) : paternosterref04_Peak.f k r.f0 r.f1 r.f2 r.f3 r.f4 r.f5 load dir = some (pk r load dir) := by
  obtain ⟨k, rfl⟩ : ∃ m, k = m + 1 + 1 + 1 + 1 + 1 := ⟨k - 5, by omega⟩
  unfold paternosterref04_Peak.f pk
  rw [rpeak_step h _ _ _ _ _ (by omega) (by omega) (by omega), rpeak_step h _ _ _ _ _ (by omega) (by omega) (by omega), rpeak_step h _ _ _ _ _ (by omega) (by omega) (by omega), rpeak_step h _ _ _ _ _ (by omega) (by omega) (by omega)]
  simp only [paternosterref04_Peak.l0]
  rw [if_neg (by omega)]
  rfl
theorem rmost_loop {r : S36} (h : Ok r) (d : Nat) : ∀ (k i : Nat), i + d = 65 → d + 12 < k → paternosterref04_Most.l0 k (mK (pV r) (qV r) i) (i : Int) r.f0 r.f1 r.f2 r.f3 r.f4 r.f5 = some (mK (pV r) (qV r) 65) := by
  induction d with
  | zero =>
    intro k i hd hk
    obtain ⟨k, rfl⟩ : ∃ m, k = m + 1 := ⟨k - 1, by omega⟩
    simp only [paternosterref04_Most.l0]
    rw [if_neg (by omega), show i = 65 by omega]
  | succ d ih =>
    intro k i hd hk
    obtain ⟨k, rfl⟩ : ∃ m, k = m + 1 := ⟨k - 1, by omega⟩
    simp only [paternosterref04_Most.l0]
    rw [if_pos (by omega), rpeak_f h _ _ k (by omega), rpeak_f h _ _ k (by omega), wrap_in (by omega) (by omega)]
    simp only [Option.bind_some]
    have hi := ih k (i + 1) (by omega) (by omega)
    have e : mK (pV r) (qV r) (i + 1) = mx (mx (mK (pV r) (qV r) i) (pk r (i : Int) 1)) (pk r (i : Int) (-1)) := rfl
    rw [e] at hi
    have ec : ((i + 1 : Nat) : Int) = (i : Int) + 1 := by omega
    rw [ec] at hi
    generalize mK (pV r) (qV r) i = m at hi ⊢
    generalize pk r (i : Int) 1 = a at hi ⊢
    generalize pk r (i : Int) (-1) = b at hi ⊢
    by_cases c1 : a > m
    · rw [if_pos c1]
      by_cases c2 : b > a
      · rw [if_pos c2]
        rw [show mx (mx m a) b = b by unfold mx; rw [if_pos c1, if_pos c2]] at hi
        exact hi
      · rw [if_neg c2]
        rw [show mx (mx m a) b = a by unfold mx; rw [if_pos c1, if_neg c2]] at hi
        exact hi
    · rw [if_neg c1]
      by_cases c2 : b > m
      · rw [if_pos c2]
        rw [show mx (mx m a) b = b by unfold mx; rw [if_neg c1, if_pos c2]] at hi
        exact hi
      · rw [if_neg c2]
        rw [show mx (mx m a) b = m by unfold mx; rw [if_neg c1, if_neg c2]] at hi
        exact hi
theorem rmost_f {r : S36} (h : Ok r) (k : Nat) (hk : 100 < k) : paternosterref04_Most.f k r.f0 r.f1 r.f2 r.f3 r.f4 r.f5 = some (mK (pV r) (qV r) 65) :=
  rmost_loop h 65 k 0 (by omega) (by omega)
end Go.Proofs.Ytomaojmccchibaa.X
