/- TurnRounds: as long as the same cars are ready, and none is busy, each serves as long as the others, one behind the other. No condition. -/
import Derived.Test.YtbaklgemdljmeaaDoorPsTurnRounds
import Derived.Test.YtbaklgemdljmeaaDoorTurnPlain
namespace Go.Proofs.YtbaklgemdljmeaaDoor.Pure
open Go.RowKit Go.Proofs.YtbaklgemdljmeaaDoor.X Go.Proofs.YtbaklgemdljmeaaDoorW.PrintWords

/-- The cars that are ready, in order. -/
def carsN (n : Nat) : List Nat := (List.range 64).filter (fun i => n.testBit i)
def cars (n : Nat) : List Int := (carsN n).map (fun i : Nat => (i : Int))
theorem carsN_mem {n i : Nat} : i ∈ carsN n ↔ i < 64 ∧ n.testBit i = true := by simp [carsN]
theorem carsN_lt (n : Nat) : (carsN n).Pairwise (· < ·) := List.Pairwise.filter _ List.pairwise_lt_range
theorem carsN_mono {n i j : Nat} (hj : j < (carsN n).length) (h : i < j) : (carsN n)[i]'(by omega) < (carsN n)[j] := List.pairwise_iff_getElem.1 (carsN_lt n) i j (by omega) hj h
theorem carsN_at {n i : Nat} (h : i < 64) (hb : n.testBit i = true) : ∃ j, ∃ hj : j < (carsN n).length, (carsN n)[j] = i := by
  have := carsN_mem.2 ⟨h, hb⟩
  obtain ⟨j, hj, e⟩ := List.getElem_of_mem this
  exact ⟨j, hj, e⟩
theorem bit_lt {n j : Nat} (hn : n < 18446744073709551616) (h : n.testBit j = true) : j < 64 := by
  apply Nat.lt_of_not_le
  intro hle
  have : n.testBit j = false := Nat.testBit_lt_two_pow (Nat.lt_of_lt_of_le hn (by have h : (2 : Nat) ^ 64 ≤ 2 ^ j := Nat.pow_le_pow_right (by omega) hle; simpa using h))
  rw [this] at h; cases h
theorem nx_first {n : Nat} (hn : n < 18446744073709551616) (h : 0 < (carsN n).length) : nx n (-1) = (((carsN n)[0] : Nat) : Int) := by
  have hm := carsN_mem.1 (List.getElem_mem (l := carsN n) h)
  refine nx_above hn (by omega) hm.2 fun j _ hj => ?_
  cases hb : n.testBit j
  · rfl
  · obtain ⟨k, hk, e⟩ := carsN_at (bit_lt hn hb) hb
    rcases Nat.eq_zero_or_pos k with h0 | h0
    · subst h0; omega
    · have := carsN_mono hk h0; omega
theorem nx_succ {n : Nat} (hn : n < 18446744073709551616) {j : Nat} (hj : j < (carsN n).length) : nx n (((carsN n)[j] : Nat) : Int) = (((carsN n)[(j + 1) % (carsN n).length]'(Nat.mod_lt _ (by omega)) : Nat) : Int) := by
  by_cases h : j + 1 < (carsN n).length
  · have e : (j + 1) % (carsN n).length = j + 1 := Nat.mod_eq_of_lt h
    simp only [e]
    have hm := carsN_mem.1 (List.getElem_mem (l := carsN n) h)
    have hlt := carsN_mono h (Nat.lt_succ_self j)
    refine nx_above hn (by omega) hm.2 fun i h1 h2 => ?_
    cases hb : n.testBit i
    · rfl
    · obtain ⟨k, hk, e⟩ := carsN_at (bit_lt hn hb) hb
      rcases Nat.lt_trichotomy k (j + 1) with h3 | h3 | h3
      · rcases Nat.lt_or_eq_of_le (Nat.le_of_lt_succ h3) with h4 | h4
        · have := carsN_mono hj h4; omega
        · subst h4; omega
      · subst h3; omega
      · have := carsN_mono hk h3; omega
  · have e : (j + 1) % (carsN n).length = 0 := by rw [show j + 1 = (carsN n).length by omega]; exact Nat.mod_self _
    simp only [e]
    have h0 : 0 < (carsN n).length := by omega
    have hm := carsN_mem.1 (List.getElem_mem (l := carsN n) h0)
    refine nx_round hn hm.2 (fun i hi => ?_) (fun i hi => ?_)
    · cases hb : n.testBit i
      · rfl
      · obtain ⟨k, hk, e⟩ := carsN_at (bit_lt hn hb) hb
        rcases Nat.eq_zero_or_pos k with h0 | h0
        · subst h0; omega
        · have := carsN_mono hk h0; omega
    · cases hb : n.testBit i
      · rfl
      · obtain ⟨k, hk, e⟩ := carsN_at (bit_lt hn hb) hb
        rcases Nat.lt_or_ge k j with h3 | h3
        · have := carsN_mono hj h3; omega
        · have : k = j := by omega
          subst this; omega
theorem gather (n : Nat) (hn : n < 18446744073709551616) (p ticks : Int) (r : Bool) (d : Nat) (K : Nat) (hK : ∀ k, K ≤ k → paternosterlaw20_TurnRounds.l1 k n p ticks (cars n) 0 (-1) 0 = some r) : ∀ (k x : Nat), x + d = 64 → K + d < k →
    paternosterlaw20_TurnRounds.l0 k n p ticks ((((List.range x).filter (fun i => n.testBit i)).map (fun i : Nat => (i : Int)))) x = some r := by
  induction d with
  | zero =>
    intro k x hd hk
    obtain ⟨k, rfl⟩ : ∃ m, k = m + 1 := ⟨k - 1, by omega⟩
    simp only [paternosterlaw20_TurnRounds.l0]
    rw [if_neg (by omega), none_f, show x = 64 by omega]
    exact hK k (by omega)
  | succ d ih =>
    intro k x hd hk
    obtain ⟨k, rfl⟩ : ∃ m, k = m + 1 := ⟨k - 1, by omega⟩
    simp only [paternosterlaw20_TurnRounds.l0]
    have hh : hasN n (x : Int) = n.testBit x := by unfold hasN; rw [decide_eq_true (by omega)]; simp
    rw [if_pos (by omega), has_f n hn, hh, wrap_in (by omega) (by omega)]
    simp only [Option.bind_some]
    have := ih k (x + 1) (by omega) (by omega)
    rw [List.range_succ, List.filter_append] at this
    have hl := List.length_filter_le (fun i => n.testBit i) (List.range x)
    rw [List.length_range] at hl
    cases hb : n.testBit x
    · rw [if_neg (by simp)]
      simpa [hb] using this
    · rw [if_pos rfl, if_pos (by rw [List.length_map]; omega)]
      simpa [hb] using this
theorem rounds (n : Nat) (hn : n < 18446744073709551616) (h0 : 0 < (carsN n).length) (p : Nat) (hp0 : 1 ≤ p) (hp1 : p ≤ 9) (t : Int) (ht : t ≤ 700) (d : Nat) : ∀ (k x : Nat) (c l : Int), (x : Int) + d = t → (x = 0 → c = -1 ∧ l = 0) → (0 < x → c = (((carsN n)[((x - 1) / p) % (carsN n).length]'(Nat.mod_lt _ h0) : Nat) : Int) ∧ l = (p : Int) - ((x - 1) % p : Nat)) → d < k →
    paternosterlaw20_TurnRounds.l1 k n p t (cars n) x c l = some true := by
  induction d with
  | zero =>
    intro k x c l hd _ _ hk
    obtain ⟨k, rfl⟩ : ∃ m, k = m + 1 := ⟨k - 1, by omega⟩
    simp only [paternosterlaw20_TurnRounds.l1]
    rw [if_neg (by omega)]
  | succ d ih =>
    intro k x c l hd hz hs hk
    obtain ⟨k, rfl⟩ : ∃ m, k = m + 1 := ⟨k - 1, by omega⟩
    have hlen : (cars n).length = (carsN n).length := by simp [cars]
    obtain ⟨m, hm⟩ : ∃ m, (carsN n).length = m := ⟨_, rfl⟩
    -- what a step comes to
    have hst : (∃ hc : c ≤ 63 ∧ -1 ≤ c, stepV n c l false p = ((((carsN n)[(x / p) % (carsN n).length]'(Nat.mod_lt _ h0) : Nat) : Int), (p : Int) - (x % p : Nat))) := by
      rcases Nat.eq_zero_or_pos x with hx | hx
      · obtain ⟨rfl, rfl⟩ := hz hx
        subst hx
        refine ⟨by omega, ?_⟩
        have e1 : hasN n (-1) = false := by unfold hasN; rw [decide_eq_false (by omega)]; rfl
        have e2 : ofV (nx n (-1)) p = ((((carsN n)[0] : Nat) : Int), (p : Int)) := by rw [nx_first hn h0]; unfold ofV; rw [if_neg (by omega)]; simp [mx]; omega
        unfold stepV
        rw [e1, if_neg (by simp), e2]
        simp
      · obtain ⟨rfl, rfl⟩ := hs hx
        have hmem := carsN_mem.1 (List.getElem_mem (l := carsN n) (Nat.mod_lt ((x - 1) / p) h0))
        refine ⟨by omega, ?_⟩
        have hdm := Nat.div_add_mod (x - 1) p
        have hml := Nat.mod_lt (x - 1) (show 0 < p by omega)
        unfold stepV
        rw [if_pos (hasN_of hmem.1 hmem.2), if_neg (by simp)]
        obtain ⟨r, hr⟩ : ∃ r, (x - 1) % p = r := ⟨_, rfl⟩
        obtain ⟨q, hq⟩ : ∃ q, (x - 1) / p = q := ⟨_, rfl⟩
        simp only [hr, hq] at hdm hml ⊢
        rw [wrap_in (by omega) (by omega)]
        by_cases c1 : (p : Int) - (r : Nat) - 1 < 1
        · have e1 : x = p * (q + 1) := by rw [Nat.mul_add, Nat.mul_one]; omega
          have e2 : x / p = q + 1 := by
            conv => lhs; rw [e1]
            exact Nat.mul_div_cancel_left _ (by omega)
          have e3 : x % p = 0 := by rw [e1]; exact Nat.mul_mod_right _ _
          rw [if_pos c1, nx_succ hn (Nat.mod_lt _ h0)]
          have e4 : (q % (carsN n).length + 1) % (carsN n).length = x / p % (carsN n).length := by rw [e2, Nat.mod_add_mod]
          simp only [e4, e3]
          unfold ofV; rw [if_neg (by omega)]; simp [mx]; omega
        · have e1 : x = p * q + (r + 1) := by omega
          have e2 : x / p = q := by
            conv => lhs; rw [e1]
            rw [Nat.mul_add_div (by omega), Nat.div_eq_of_lt (by omega)]; rfl
          have e3 : x % p = r + 1 := by
            conv => lhs; rw [e1]
            rw [Nat.mul_add_mod]; exact Nat.mod_eq_of_lt (by omega)
          rw [if_neg c1]
          simp only [e2, e3]
          congr 1; omega
    obtain ⟨hc, hst⟩ := hst
    simp only [paternosterlaw20_TurnRounds.l1]
    rw [if_pos (by omega), step_f n hn c l false p (by omega) hc.1, hst]
    simp only [Option.bind_some]
    have hx700 : x < 700 := by omega
    have e0 : wrap64 (Int.tdiv x p) = ((x / p : Nat) : Int) := by
      have : Int.tdiv (x : Int) (p : Int) = ((x / p : Nat) : Int) := by rw [Int.tdiv_eq_ediv_of_nonneg (by omega)]; rfl
      rw [this]
      have := Nat.div_le_self x p
      generalize x / p = q at this ⊢
      exact wrap_in (by omega) (by omega)
    have e1 : Int.tmod ((x / p : Nat) : Int) ((cars n).length : Int) = ((x / p % (carsN n).length : Nat) : Int) := by rw [hlen, Int.tmod_eq_emod_of_nonneg (Int.natCast_nonneg _)]; rfl
    have hlt := Nat.mod_lt (x / p) h0
    have hrd : rd (cars n) ((x / p % (carsN n).length : Nat) : Int) = (((carsN n)[(x / p) % (carsN n).length]'(Nat.mod_lt _ h0) : Nat) : Int) := by
      unfold rd cars
      rw [List.getD_eq_getElem?_getD, Int.toNat_natCast, List.getElem?_map, List.getElem?_eq_getElem hlt]
      rfl
    have hnx := ih k (x + 1) (((carsN n)[(x / p) % (carsN n).length]'(Nat.mod_lt _ h0) : Nat) : Int) ((p : Int) - (x % p : Nat)) (by omega) (by omega) (fun _ => by simp) (by omega)
    rw [if_neg (by omega), if_neg (by omega), e0, e1, hrd]
    have i1 : (0 : Int) ≤ ((x / p % (carsN n).length : Nat) : Int) := Int.natCast_nonneg _
    have i2 : ((x / p % (carsN n).length : Nat) : Int) < ((cars n).length : Int) := by rw [hlen]; exact Int.ofNat_lt.2 hlt
    rw [if_pos i1, if_pos i2, if_pos rfl, wrap_in (by omega) (by omega)]
    simpa using hnx
theorem TurnRounds : paternosterlaw20_TurnRounds.PureS := by
  intro a0 a1 a2 w0 w1 w2
  obtain ⟨n, rfl, hn⟩ := u64_nat w0
  have b1 := bounds_u8 w1
  have b2 := bounds_u16 w2
  refine ⟨1000, ?_⟩
  obtain ⟨p, hp, hp0, hp1⟩ : ∃ p : Nat, wrap64 ((wrap64 (Int.tmod a1 9)) + 1) = (p : Int) ∧ 1 ≤ p ∧ p ≤ 9 := by
    rw [Int.tmod_eq_emod_of_nonneg (by omega), wrap_in (x := a1 % 9) (by omega) (by omega), wrap_in (by omega) (by omega)]
    exact ⟨(a1 % 9 + 1).toNat, by omega, by omega, by omega⟩
  obtain ⟨t, ht, ht0, ht1⟩ : ∃ t : Int, wrap64 (Int.tmod a2 700) = t ∧ 0 ≤ t ∧ t ≤ 700 := by
    rw [Int.tmod_eq_emod_of_nonneg (by omega), wrap_in (by omega) (by omega)]
    exact ⟨_, rfl, by omega, by omega⟩
  unfold paternosterlaw20_TurnRounds.f
  rw [awake_f, hp, ht]
  simp only [Option.bind_some, if_true]
  by_cases hz : (n : Int) = 0
  · rw [if_pos hz]
  · rw [if_neg hz]
    obtain ⟨i, _, hi, hb⟩ := nx_ready hn (show n ≠ 0 by omega) 0
    obtain ⟨j, hj, _⟩ := carsN_at hi hb
    have := gather n hn p t true 64 800 (fun k hk => rounds n hn (by omega) p hp0 hp1 t ht1 t.toNat k 0 (-1) 0 (by omega) (fun _ => ⟨rfl, rfl⟩) (fun h => by omega) (by omega)) 1000 0 (by omega) (by omega)
    simpa using this
end Go.Proofs.YtbaklgemdljmeaaDoor.Pure
