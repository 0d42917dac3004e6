/- The document's peaks, and their most, plainly. -/
import Derived.Test.YtomaojmccchibaaRatesRef
import Derived.Test.YtomaojmccchibaaXx24
import Derived.Test.YtomaojmccchibaaXx25
namespace Go.Proofs.Ytomaojmccchibaa.X
open Go.RowKit Go.Proofs.YtomaojmccchibaaW.PrintWords

theorem rpeak_step {r : S36} (h : Ok r) (load dir x what : Int) (k : Nat) (hk : 3 < k) (hw : 0 ≤ what) (hw5 : what < 5) :
    paternosterref04_Peak.l0 (k + 1) load dir x what r.f0 r.f1 r.f2 r.f3 r.f4 r.f5 = paternosterref04_Peak.l0 k load dir (mx x (dv r what load dir)) (what + 1) r.f0 r.f1 r.f2 r.f3 r.f4 r.f5 := by
  simp only [paternosterref04_Peak.l0]
  rw [if_pos hw5, rdraw_f h what load dir k hk, wrap_in (by omega) (by omega)]
  simp only [Option.bind_some]
  unfold mx
  by_cases c : dv r what load dir > x
  · rw [if_pos c, if_pos (show x < dv r what load dir from c)]
  · rw [if_neg c, if_neg (show ¬ x < dv r what load dir from c)]
theorem rpeak_f {r : S36} (h : Ok r) (load dir : Int) (k : Nat) (hk : 10 < k) : paternosterref04_Peak.f k r.f0 r.f1 r.f2 r.f3 r.f4 r.f5 load dir = some (pk r load dir) := by
  obtain ⟨k, rfl⟩ : ∃ m, k = m + 1 + 1 + 1 + 1 + 1 := ⟨k - 5, by omega⟩
  unfold paternosterref04_Peak.f pk
  rw [rpeak_step h _ _ _ _ _ (by omega) (by omega) (by omega), rpeak_step h _ _ _ _ _ (by omega) (by omega) (by omega), rpeak_step h _ _ _ _ _ (by omega) (by omega) (by omega), rpeak_step h _ _ _ _ _ (by omega) (by omega) (by omega)]
  simp only [paternosterref04_Peak.l0]
  rw [if_neg (by omega)]
  rfl
theorem rmost_loop {r : S36} (h : Ok r) (d : Nat) : ∀ (k i : Nat), i + d = 65 → d + 12 < k → paternosterref04_Most.l0 k (mK (pV r) (qV r) i) (i : Int) r.f0 r.f1 r.f2 r.f3 r.f4 r.f5 = some (mK (pV r) (qV r) 65) := by
  induction d with
  | zero =>
    intro k i hd hk
    obtain ⟨k, rfl⟩ : ∃ m, k = m + 1 := ⟨k - 1, by omega⟩
    simp only [paternosterref04_Most.l0]
    rw [if_neg (by omega), show i = 65 by omega]
  | succ d ih =>
    intro k i hd hk
    obtain ⟨k, rfl⟩ : ∃ m, k = m + 1 := ⟨k - 1, by omega⟩
    simp only [paternosterref04_Most.l0]
    rw [if_pos (by omega), rpeak_f h _ _ k (by omega), rpeak_f h _ _ k (by omega), wrap_in (by omega) (by omega)]
    simp only [Option.bind_some]
    have hi := ih k (i + 1) (by omega) (by omega)
    have e : mK (pV r) (qV r) (i + 1) = mx (mx (mK (pV r) (qV r) i) (pk r (i : Int) 1)) (pk r (i : Int) (-1)) := rfl
    rw [e] at hi
    have ec : ((i + 1 : Nat) : Int) = (i : Int) + 1 := by omega
    rw [ec] at hi
    generalize mK (pV r) (qV r) i = m at hi ⊢
    generalize pk r (i : Int) 1 = a at hi ⊢
    generalize pk r (i : Int) (-1) = b at hi ⊢
    by_cases c1 : a > m
    · rw [if_pos c1]
      by_cases c2 : b > a
      · rw [if_pos c2]
        rw [show mx (mx m a) b = b by unfold mx; rw [if_pos c1, if_pos c2]] at hi
        exact hi
      · rw [if_neg c2]
        rw [show mx (mx m a) b = a by unfold mx; rw [if_pos c1, if_neg c2]] at hi
        exact hi
    · rw [if_neg c1]
      by_cases c2 : b > m
      · rw [if_pos c2]
        rw [show mx (mx m a) b = b by unfold mx; rw [if_neg c1, if_pos c2]] at hi
        exact hi
      · rw [if_neg c2]
        rw [show mx (mx m a) b = m by unfold mx; rw [if_neg c1, if_neg c2]] at hi
        exact hi
theorem rmost_f {r : S36} (h : Ok r) (k : Nat) (hk : 100 < k) : paternosterref04_Most.f k r.f0 r.f1 r.f2 r.f3 r.f4 r.f5 = some (mK (pV r) (qV r) 65) :=
  rmost_loop h 65 k 0 (by omega) (by omega)
end Go.Proofs.Ytomaojmccchibaa.X
