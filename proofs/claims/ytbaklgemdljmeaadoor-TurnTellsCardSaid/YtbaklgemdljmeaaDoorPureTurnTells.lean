/- TurnTells: of any turn, whatever is ready, and whoever is chosen, whose turn it is, and for how long, are the document's. No condition. -/
import Derived.Test.YtbaklgemdljmeaaDoorPsTurnTells
import Derived.Test.YtbaklgemdljmeaaDoorTurnPlain
namespace Go.Proofs.YtbaklgemdljmeaaDoor.Pure
open Go.RowKit Go.Proofs.YtbaklgemdljmeaaDoor.X Go.Proofs.YtbaklgemdljmeaaDoorW.PrintWords

theorem l1_loop (n : Nat) (hn : n < 18446744073709551616) (d : Nat) : ∀ (k x : Nat), (x : Int) + d = 64 → d + 70 < k → paternosterref20_next.l1 k n x = some (low (upTo n x)) := by
  induction d with
  | zero =>
    intro k x hd hk
    obtain ⟨k, rfl⟩ : ∃ m, k = m + 1 := ⟨k - 1, by omega⟩
    simp only [paternosterref20_next.l1]
    rw [if_neg (by omega), show x = 64 by omega, upTo_big hn]; rfl
  | succ d ih =>
    intro k x hd hk
    obtain ⟨k, rfl⟩ : ∃ m, k = m + 1 := ⟨k - 1, by omega⟩
    simp only [paternosterref20_next.l1]
    rw [if_pos (by omega), rhas_f n hn _ k (by omega)]
    simp only [Option.bind_some]
    have hh : hasN n (x : Int) = n.testBit x := by unfold hasN; rw [decide_eq_true (by omega)]; simp
    rw [hh]
    by_cases h : n.testBit x = true
    · rw [if_pos h, (low_upTo hn h).2]
    · rw [if_neg h, wrap_in (by omega) (by omega), ← upTo_skip (by simpa using h)]
      have := ih k (x + 1) (by omega) (by omega)
      simpa using this
theorem l0_loop (n : Nat) (hn : n < 18446744073709551616) (d : Nat) : ∀ (k : Nat) (x : Int), -10000 ≤ x → x + d = 64 → d + 200 < k → paternosterref20_next.l0 k n x = some (if upTo n x.toNat = 0 then low n else low (upTo n x.toNat)) := by
  induction d with
  | zero =>
    intro k x hx hd hk
    obtain ⟨k, rfl⟩ : ∃ m, k = m + 1 := ⟨k - 1, by omega⟩
    simp only [paternosterref20_next.l0]
    have := l1_loop n hn 64 k 0 (by omega) (by omega)
    rw [upTo_zero] at this
    rw [if_neg (by omega), show x.toNat = 64 by omega, if_pos (upTo_big hn)]
    exact this
  | succ d ih =>
    intro k x hx hd hk
    obtain ⟨k, rfl⟩ : ∃ m, k = m + 1 := ⟨k - 1, by omega⟩
    simp only [paternosterref20_next.l0]
    have hi := ih k (x + 1) (by omega) (by omega) (by omega)
    rw [if_pos (by omega), wrap_in (x := x + 1) (by omega) (by omega)]
    by_cases h0 : x ≥ 0
    · obtain ⟨j, rfl⟩ : ∃ j : Nat, x = (j : Int) := ⟨x.toNat, by omega⟩
      have hh : hasN n (j : Int) = n.testBit j := by unfold hasN; rw [decide_eq_true (by omega)]; simp
      rw [if_pos h0, rhas_f n hn _ k (by omega), hh]
      simp only [Option.bind_some]
      rw [show ((j : Int) + 1).toNat = j + 1 by omega] at hi
      rw [show ((j : Int)).toNat = j by omega]
      by_cases h : n.testBit j = true
      · rw [if_pos h, if_neg (low_upTo hn h).1, (low_upTo hn h).2]
      · rw [if_neg h, hi, upTo_skip (by simpa using h)]
    · rw [if_neg h0, hi, show (x + 1).toNat = 0 by omega, show x.toNat = 0 by omega]
theorem rnext_f (n : Nat) (hn : n < 18446744073709551616) (c : Int) (h0 : -1000 ≤ c) (h1 : c ≤ 63) (k : Nat) (hk : 2000 < k) : paternosterref20_next.f k c n = some (nx n c) := by
  unfold paternosterref20_next.f nx
  rw [wrap_in (by omega) (by omega)]
  exact l0_loop n hn (64 - (c + 1)).toNat k (c + 1) (by omega) (by omega) (by omega)
theorem rof_f (u p : Int) : paternosterref20_of.f u p = some (ofV u p) := by
  unfold paternosterref20_of.f ofV
  by_cases h : u < 0
  · rw [if_pos h, if_pos h]
  · rw [if_neg h, if_neg h]
    by_cases h1 : p < 1
    · rw [if_pos h1]; simp [mx]; omega
    · rw [if_neg h1]; simp [mx]; omega
theorem rstep_f (n : Nat) (hn : n < 18446744073709551616) (c l : Int) (b : Bool) (p : Int) (h0 : -1000 ≤ c) (h1 : c ≤ 63) (k : Nat) (hk : 2000 < k) : paternosterref20_Step.f k c l n b p = some (stepV n c l b p) := by
  unfold paternosterref20_Step.f stepV
  rw [rhas_f n hn c k (by omega), rnext_f n hn c h0 h1 k hk]
  simp only [Option.bind_some, rof_f]
  split
  · split
    · rfl
    · split <;> rfl
  · rfl
theorem rpick_f (n : Nat) (hn : n < 18446744073709551616) (c l x : Int) (b : Bool) (p : Int) (k : Nat) (hk : 2000 < k) : paternosterref20_Pick.f k c l x n b p = some (if b = true then (c, l, false) else if hasN n x = true then ((ofV x p).1, (ofV x p).2, true) else (c, l, false)) := by
  unfold paternosterref20_Pick.f
  rw [rhas_f n hn x k (by omega)]
  simp only [Option.bind_some, rof_f]
  cases b
  · cases hasN n x <;> simp
  · simp
theorem TurnTells : paternosterlaw20_TurnTells.PureS := by
  intro c l a1 b hand x p _ ⟨h1, _, _, _⟩ _
  obtain ⟨n, rfl, hn⟩ := u64_nat h1
  refine ⟨2002, ?_⟩
  unfold paternosterlaw20_TurnTells.f
  rw [awake_f]
  simp only [Option.bind_some, if_true]
  have J : ∀ t, (t = false → -1000 ≤ c ∧ c ≤ 63) → paternosterlaw20_TurnTells.j0 (2001 + 1) p t c l n b hand x = some true := by
    intro t ht
    generalize hk : 2001 = k
    simp only [paternosterlaw20_TurnTells.j0]
    cases t
    · obtain ⟨h0, h1⟩ := ht rfl
      rw [step_f n hn c l b p (by omega) h1, rstep_f n hn c l b p h0 h1 k (by omega), pick_f n hn c l x b p, rpick_f n hn c l x b p k (by omega)]
      simp
    · simp
  by_cases c1 : c > 63
  · rw [if_pos c1]; exact J true (by simp)
  · by_cases c2 : c < -1000
    · rw [if_neg c1, if_pos c2]; exact J true (by simp)
    · by_cases c3 : l < 0
      · rw [if_neg c1, if_neg c2, if_pos c3]; exact J true (by simp)
      · by_cases c4 : l > 1000
        · rw [if_neg c1, if_neg c2, if_neg c3, if_pos c4]; exact J true (by simp)
        · rw [if_neg c1, if_neg c2, if_neg c3, if_neg c4]; exact J _ (fun _ => by omega)
end Go.Proofs.YtbaklgemdljmeaaDoor.Pure
