/- TurnReady: whatever is ready, and whoever is chosen, who serves is ready, as long as one is; nobody is put off who is busy. No condition. -/
import Derived.Test.YtbaklgemdljmeaaDoorPsTurnReady
import Derived.Test.YtbaklgemdljmeaaDoorTurnPlain
namespace Go.Proofs.YtbaklgemdljmeaaDoor.Pure
open Go.RowKit Go.Proofs.YtbaklgemdljmeaaDoor.X Go.Proofs.YtbaklgemdljmeaaDoorW.PrintWords

theorem has_in {n : Nat} {c : Int} (h : hasN n c = true) : 0 ≤ c ∧ c < 64 := by
  unfold hasN at h
  rw [Bool.and_eq_true, decide_eq_true_eq] at h
  exact h.1
theorem rounds (l : List S26) (hl : l.length ≤ 200) (hw : ∀ x ∈ l, (Lit.int .u64 x.f0).wf = true ∧ True ∧ True ∧ (Lit.int .i64 x.f3).wf = true) (p : Int) (hp0 : 1 ≤ p) (hp1 : p ≤ 20) (d : Nat) : ∀ (k : Nat) (x c t : Int), 0 ≤ x → x + d = l.length → -1 ≤ c → c ≤ 63 → 0 ≤ t → t ≤ p → 3 * d < k →
    paternosterlaw20_TurnReady.l0 k l p x c t = some true := by
  induction d with
  | zero =>
    intro k x c t h0 hd _ _ _ _ hk
    obtain ⟨k, rfl⟩ : ∃ m, k = m + 1 := ⟨k - 1, by omega⟩
    simp only [paternosterlaw20_TurnReady.l0]; rw [if_neg (by omega)]
  | succ d ih =>
    intro k x c t h0 hd hc0 hc1 ht0 ht1 hk
    obtain ⟨k, rfl⟩ : ∃ m, k = m + 1 + 1 + 1 := ⟨k - 3, by omega⟩
    have hmem : rd_T26 l x ∈ l := by
      unfold rd_T26
      rw [List.getD_eq_getElem?_getD, List.getElem?_eq_getElem (by omega)]
      exact List.getElem_mem _
    obtain ⟨⟨q0, b, hand, z⟩, hq⟩ : ∃ q, rd_T26 l x = q := ⟨_, rfl⟩
    obtain ⟨hn0, _, _, _⟩ := hw _ hmem
    rw [hq] at hn0
    obtain ⟨n, rfl, hn⟩ : ∃ n : Nat, q0 = (n : Int) ∧ n < 18446744073709551616 := u64_nat hn0
    clear hn0
    -- the step
    obtain ⟨⟨c2, t2⟩, hst⟩ : ∃ v, stepV n c t b p = v := ⟨_, rfl⟩
    have ho : ∀ u : Int, 0 ≤ u → ofV u p = (u, p) := fun u hu => by unfold ofV; rw [if_neg (by omega)]; simp [mx]; omega
    have hw1 : wrap64 (t - 1) = t - 1 := wrap_in (by omega) (by omega)
    have S : (n = 0 → c2 = -1 ∧ t2 = 0) ∧ (n ≠ 0 → hasN n c2 = true) ∧ -1 ≤ c2 ∧ c2 ≤ 63 ∧ 0 ≤ t2 ∧ t2 ≤ p ∧ (b = true → hasN n c = true → c2 = c ∧ t2 = t) := by
      unfold stepV at hst
      by_cases hh : hasN n c = true
      · have hnz : n ≠ 0 := by intro e; subst e; simp [hasN] at hh
        have hci := has_in hh
        rw [if_pos hh] at hst
        by_cases hb : b = true
        · rw [if_pos hb] at hst
          obtain ⟨rfl, rfl⟩ := Prod.mk.inj hst
          exact ⟨fun e => absurd e hnz, fun _ => hh, hc0, hc1, ht0, ht1, fun _ _ => ⟨rfl, rfl⟩⟩
        · rw [if_neg hb, hw1] at hst
          by_cases hlt : t - 1 < 1
          · obtain ⟨i, e, hi, hib⟩ := nx_ready hn hnz c
            rw [if_pos hlt, e, ho _ (by omega)] at hst
            obtain ⟨rfl, rfl⟩ := Prod.mk.inj hst
            exact ⟨fun e => absurd e hnz, fun _ => hasN_of hi hib, by omega, by omega, by omega, by omega, fun h => absurd h hb⟩
          · rw [if_neg hlt] at hst
            obtain ⟨rfl, rfl⟩ := Prod.mk.inj hst
            exact ⟨fun e => absurd e hnz, fun _ => hh, hc0, hc1, by omega, by omega, fun h => absurd h hb⟩
      · rw [if_neg hh] at hst
        by_cases hz : n = 0
        · subst hz
          rw [nx_zero] at hst
          have hst : ((-1 : Int), (0 : Int)) = (c2, t2) := by rw [← hst]; rfl
          obtain ⟨rfl, rfl⟩ := Prod.mk.inj hst
          exact ⟨fun _ => ⟨rfl, rfl⟩, fun h => absurd rfl h, by omega, by omega, by omega, by omega, fun _ h => absurd h hh⟩
        · obtain ⟨i, e, hi, hib⟩ := nx_ready hn hz c
          rw [e, ho _ (by omega)] at hst
          obtain ⟨rfl, rfl⟩ := Prod.mk.inj hst
          exact ⟨fun e => absurd e hz, fun _ => hasN_of hi hib, by omega, by omega, by omega, by omega, fun _ h => absurd h hh⟩
    obtain ⟨S1, S2, S3, S4, S5, S6, S7⟩ := S
    have J2 : paternosterlaw20_TurnReady.j2 (k + 1) l p x false c2 t2 (n : Int) b hand z = some true := by
      have hnext := ih k (x + 1)
      by_cases hh : hand = true
      · have hp := pick_f n hn c2 t2 z b p
        have hh2 := has_f n hn z
        have fin0 : turn_Turn_Pick.f c2 t2 z (n : Int) b p = some (c2, t2, false) → (b = true ∨ hasN n z = false) → paternosterlaw20_TurnReady.j2 (k + 1) l p x false c2 t2 (n : Int) b hand z = some true := by
          intro hp' hbz
          simp only [paternosterlaw20_TurnReady.j2, Bool.false_eq_true, if_false]
          rw [wrap_in (x := x + 1) (by omega) (by omega), if_pos hh, hp']
          simp only [Option.bind_some]
          by_cases hb : b = true
          · rw [if_pos hb]
            simp only [bne_self_eq_false, Bool.false_eq_true, if_false, beq_self_eq_true, Bool.not_true, Bool.or_self]
            exact hnext c2 t2 (by omega) (by omega) S3 S4 S5 S6 (by omega)
          · have hz : hasN n z = false := hbz.resolve_left hb
            rw [if_neg hb, hh2, hz]
            simp only [Option.bind_some, bne_self_eq_false, Bool.false_eq_true, if_false, beq_self_eq_true, Bool.not_true, Bool.or_self]
            exact hnext c2 t2 (by omega) (by omega) S3 S4 S5 S6 (by omega)
        have fin1 : turn_Turn_Pick.f c2 t2 z (n : Int) b p = some (z, p, true) → b = false → hasN n z = true → paternosterlaw20_TurnReady.j2 (k + 1) l p x false c2 t2 (n : Int) b hand z = some true := by
          intro hp' hb hz
          have hzi := has_in hz
          simp only [paternosterlaw20_TurnReady.j2, Bool.false_eq_true, if_false]
          rw [wrap_in (x := x + 1) (by omega) (by omega), if_pos hh, hp']
          simp only [Option.bind_some]
          rw [if_neg (by simp [hb]), hh2, hz]
          simp only [Option.bind_some, bne_self_eq_false, Bool.false_eq_true, if_false, if_true]
          exact hnext z p (by omega) (by omega) (by omega) (by omega) (by omega) (by omega) (by omega)
        rcases Bool.eq_false_or_eq_true b with hb | hb
        · exact fin0 (hp.trans (by rw [if_pos hb])) (.inl hb)
        · rcases Bool.eq_false_or_eq_true (hasN n z) with hz | hz
          · exact fin1 (hp.trans (by rw [if_neg (by simp [hb]), if_pos hz, ho z (has_in hz).1])) hb hz
          · exact fin0 (hp.trans (by rw [if_neg (by simp [hb]), if_neg (by simp [hz])])) (.inr hz)
      · simp only [paternosterlaw20_TurnReady.j2, Bool.false_eq_true, if_false]
        rw [wrap_in (x := x + 1) (by omega) (by omega), if_neg hh]
        exact hnext c2 t2 (by omega) (by omega) S3 S4 S5 S6 (by omega)
    have J1 : paternosterlaw20_TurnReady.j1 (k + 1 + 1) l p x false c2 t2 (n : Int) b hand z c t = some true := by
      simp only [paternosterlaw20_TurnReady.j1, Bool.false_eq_true, if_false]
      by_cases hb : b = true
      · rw [if_pos hb, has_f n hn]
        simp only [Option.bind_some]
        by_cases hh : hasN n c = true
        · obtain ⟨rfl, rfl⟩ := S7 hb hh
          rw [if_pos hh]
          simpa using J2
        · rw [if_neg hh]; exact J2
      · rw [if_neg hb]; exact J2
    simp only [paternosterlaw20_TurnReady.l0]
    rw [if_pos (by omega), if_pos h0, hq]
    simp only
    have hsf : turn_Turn_Step.f c t (n : Int) b p = some (c2, t2) := (step_f n hn c t b p (by omega) hc1).trans (congrArg some hst)
    rw [hsf]
    simp only [Option.bind_some]
    by_cases hz : (n : Int) = 0
    · obtain ⟨rfl, rfl⟩ := S1 (by omega)
      rw [if_pos hz, none_f]
      simp only [Option.bind_some, beq_self_eq_true, Bool.not_true, Bool.or_self, Bool.false_eq_true, if_false]
      rw [decide_eq_false (by omega)]
      exact J1
    · rw [if_neg hz, has_f n hn, S2 (by omega)]
      simp only [Option.bind_some, if_true]
      rw [decide_eq_false (by omega)]
      exact J1
theorem TurnReady : paternosterlaw20_TurnReady.PureS := by
  intro l a1 hl w1
  have b1 := bounds_u8 w1
  refine ⟨1000, ?_⟩
  obtain ⟨p, hp, hp0, hp1⟩ : ∃ p : Int, wrap64 ((wrap64 (Int.tmod a1 20)) + 1) = p ∧ 1 ≤ p ∧ p ≤ 20 := by
    rw [Int.tmod_eq_emod_of_nonneg (by omega), wrap_in (x := a1 % 20) (by omega) (by omega), wrap_in (by omega) (by omega)]
    exact ⟨_, rfl, by omega, by omega⟩
  unfold paternosterlaw20_TurnReady.f
  rw [awake_f, hp]
  simp only [Option.bind_some, if_true]
  by_cases hz : (l.length : Int) > 200
  · rw [if_pos hz]
  · rw [if_neg hz, none_f]
    simp only [Option.bind_some]
    exact rounds l (by omega) hl.2 p hp0 hp1 l.length 1000 0 (-1) 0 (by omega) (by omega) (by omega) (by omega) (by omega) (by omega) (by omega)
end Go.Proofs.YtbaklgemdljmeaaDoor.Pure
