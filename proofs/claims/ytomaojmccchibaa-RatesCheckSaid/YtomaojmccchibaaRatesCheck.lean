/- RatesCheck, walked: whether any rates may be is the document's; of others there is no table. -/
import Derived.Test.YtomaojmccchibaaRatesReg
namespace Go.Proofs.Ytomaojmccchibaa.X
open Go.RowKit Go.Proofs.YtomaojmccchibaaW.PrintWords Go.Proofs.YtomaojmccchibaaW.PrintLast Go.Proofs.YtomaojmccchibaaW.PrintMore
attribute [local go_sem] max2_mx min2_mn max_two min_two
set_option linter.unusedVariables false
set_option linter.unusedSimpArgs false

def paternosterlaw04_RatesCheck.f (a0_0 a0_1 a0_2 a0_3 a0_4 a0_5 : Int) : Option Bool := some true
theorem which_not {R : S36} (h : ¬ Ok R) : (R.f0 < 0) ∨ (0 ≤ R.f0 ∧ 1000 < R.f0) ∨ (0 ≤ R.f0 ∧ R.f0 ≤ 1000 ∧ R.f1 < 0) ∨ (0 ≤ R.f0 ∧ R.f0 ≤ 1000 ∧ 0 ≤ R.f1 ∧ 1000 < R.f1) ∨ (0 ≤ R.f0 ∧ R.f0 ≤ 1000 ∧ 0 ≤ R.f1 ∧ R.f1 ≤ 1000 ∧ R.f2 < 0) ∨ (0 ≤ R.f0 ∧ R.f0 ≤ 1000 ∧ 0 ≤ R.f1 ∧ R.f1 ≤ 1000 ∧ 0 ≤ R.f2 ∧ 1000 < R.f2) ∨ (0 ≤ R.f0 ∧ R.f0 ≤ 1000 ∧ 0 ≤ R.f1 ∧ R.f1 ≤ 1000 ∧ 0 ≤ R.f2 ∧ R.f2 ≤ 1000 ∧ R.f4 < 0) ∨ (0 ≤ R.f0 ∧ R.f0 ≤ 1000 ∧ 0 ≤ R.f1 ∧ R.f1 ≤ 1000 ∧ 0 ≤ R.f2 ∧ R.f2 ≤ 1000 ∧ 0 ≤ R.f4 ∧ 1000 < R.f4) ∨ (0 ≤ R.f0 ∧ R.f0 ≤ 1000 ∧ 0 ≤ R.f1 ∧ R.f1 ≤ 1000 ∧ 0 ≤ R.f2 ∧ R.f2 ≤ 1000 ∧ 0 ≤ R.f4 ∧ R.f4 ≤ 1000 ∧ R.f3 < 0) ∨ (0 ≤ R.f0 ∧ R.f0 ≤ 1000 ∧ 0 ≤ R.f1 ∧ R.f1 ≤ 1000 ∧ 0 ≤ R.f2 ∧ R.f2 ≤ 1000 ∧ 0 ≤ R.f4 ∧ R.f4 ≤ 1000 ∧ 0 ≤ R.f3 ∧ 100 < R.f3) ∨ (0 ≤ R.f0 ∧ R.f0 ≤ 1000 ∧ 0 ≤ R.f1 ∧ R.f1 ≤ 1000 ∧ 0 ≤ R.f2 ∧ R.f2 ≤ 1000 ∧ 0 ≤ R.f4 ∧ R.f4 ≤ 1000 ∧ 0 ≤ R.f3 ∧ R.f3 ≤ 100 ∧ R.f5 < 0) ∨ (0 ≤ R.f0 ∧ R.f0 ≤ 1000 ∧ 0 ≤ R.f1 ∧ R.f1 ≤ 1000 ∧ 0 ≤ R.f2 ∧ R.f2 ≤ 1000 ∧ 0 ≤ R.f4 ∧ R.f4 ≤ 1000 ∧ 0 ≤ R.f3 ∧ R.f3 ≤ 100 ∧ 0 ≤ R.f5 ∧ 64 < R.f5) := by
  unfold Ok at h
  by_cases c0 : R.f0 < 0
  · left; exact c0
  by_cases c1 : 1000 < R.f0
  · right; left; exact ⟨by omega, by omega⟩
  by_cases c2 : R.f1 < 0
  · right; right; left; exact ⟨by omega, by omega, by omega⟩
  by_cases c3 : 1000 < R.f1
  · right; right; right; left; exact ⟨by omega, by omega, by omega, by omega⟩
  by_cases c4 : R.f2 < 0
  · right; right; right; right; left; exact ⟨by omega, by omega, by omega, by omega, by omega⟩
  by_cases c5 : 1000 < R.f2
  · right; right; right; right; right; left; exact ⟨by omega, by omega, by omega, by omega, by omega, by omega⟩
  by_cases c6 : R.f4 < 0
  · right; right; right; right; right; right; left; exact ⟨by omega, by omega, by omega, by omega, by omega, by omega, by omega⟩
  by_cases c7 : 1000 < R.f4
  · right; right; right; right; right; right; right; left; exact ⟨by omega, by omega, by omega, by omega, by omega, by omega, by omega, by omega⟩
  by_cases c8 : R.f3 < 0
  · right; right; right; right; right; right; right; right; left; exact ⟨by omega, by omega, by omega, by omega, by omega, by omega, by omega, by omega, by omega⟩
  by_cases c9 : 100 < R.f3
  · right; right; right; right; right; right; right; right; right; left; exact ⟨by omega, by omega, by omega, by omega, by omega, by omega, by omega, by omega, by omega, by omega⟩
  by_cases c10 : R.f5 < 0
  · right; right; right; right; right; right; right; right; right; right; left; exact ⟨by omega, by omega, by omega, by omega, by omega, by omega, by omega, by omega, by omega, by omega, by omega⟩
  by_cases c11 : 64 < R.f5
  · right; right; right; right; right; right; right; right; right; right; right; exact ⟨by omega, by omega, by omega, by omega, by omega, by omega, by omega, by omega, by omega, by omega, by omega, by omega⟩
  exact absurd ⟨⟨by omega, by omega⟩, ⟨by omega, by omega⟩, ⟨by omega, by omega⟩, ⟨by omega, by omega⟩, ⟨by omega, by omega⟩, by omega, by omega⟩ h
set_option maxRecDepth 100000 in
set_option maxHeartbeats 8000000 in
theorem paternosterlaw04_RatesCheck.calls (a0_0 a0_1 a0_2 a0_3 a0_4 a0_5 : Int) (r : Bool) (w : World) (h : paternosterlaw04_RatesCheck.f a0_0 a0_1 a0_2 a0_3 a0_4 a0_5  = some r) :
    Calls Try.prog 11 #[.agg #[.int .i64 a0_0, .int .i64 a0_1, .int .i64 a0_2, .int .i64 a0_3, .int .i64 a0_4, .int .i64 a0_5]] w fun e w' => e = .returned (.bool r) ∧ Below w.heap.size w w' := by
  obtain rfl := Option.some.inj h
  clear h
  obtain ⟨R, hR⟩ : ∃ R : S36, R = ⟨a0_0, a0_1, a0_2, a0_3, a0_4, a0_5⟩ := ⟨_, rfl⟩
  obtain ⟨rfl, rfl, rfl, rfl, rfl, rfl⟩ : a0_0 = R.f0 ∧ a0_1 = R.f1 ∧ a0_2 = R.f2 ∧ a0_3 = R.f3 ∧ a0_4 = R.f4 ∧ a0_5 = R.f5 := by subst hR; exact ⟨rfl, rfl, rfl, rfl, rfl, rfl⟩
  clear hR
  by_cases hOk : Ok R
  · have HC := Aside0.mk (show rates_Check.f R.f0 R.f1 R.f2 R.f3 R.f4 R.f5 = some true by rw [check_f, decide_eq_true hOk])
    have HD := Aside0.mk hOk
    have p0 := hOk.1.1
    have p1 := hOk.1.2
    have p2 := hOk.2.1.1
    have p3 := hOk.2.1.2
    have p4 := hOk.2.2.1.1
    have p5 := hOk.2.2.1.2
    have p6 := hOk.2.2.2.1.1
    have p7 := hOk.2.2.2.1.2
    have p8 := hOk.2.2.2.2.1.1
    have p9 := hOk.2.2.2.2.1.2
    have p10 := hOk.2.2.2.2.2.1
    have p11 := hOk.2.2.2.2.2.2
    clear hOk
    go_enter Try.func11, Try.ntmps11
    go_wp2_with fail
    refine (paternosterlaw04_awake.calls true _ rfl).mono ?_
    rintro e w1 ⟨rfl, hb⟩
    have RB1 := Aside0.mk (show RB w.heap.size R w1 from blk_below (blk_new w _) hb)
    have B1 := Aside0.mk (below_step (below_alloc (Below.refl w.heap.size w) _) hb)
    clear hb
    obtain ⟨b0, b1, b2, b3, b4, b5⟩ := six_of RB1.out
    go_wp2_with fail
    refine (new_RG RB1.out B1.out (blk_lt RB1.out) HC.out).mono ?_
    rintro e w3 ⟨g, rfl, hR3, hg3, hb3, hrg⟩
    have HF := Aside0.mk (hrg (pV R) (qV R))
    clear hR3 hg3 hb3 hrg b0 b1 b2 b3 b4 b5
    obtain ⟨b0, b1, b2, b3, b4, b5⟩ := HF.out.six
    go_wp2_with fail
    refine (rates_Check.calls _ _ _ _ _ _ _ _ HC.out).mono ?_
    rintro e w2 ⟨rfl, hb⟩
    have B2 := Aside0.mk (below_step HF.out.2.2.1 hb)
    clear hb
    go_wp2_with fail
    go_ret
    exact ⟨rfl, B2.out⟩
  · have HC := Aside0.mk (show rates_Check.f R.f0 R.f1 R.f2 R.f3 R.f4 R.f5 = some false by rw [check_f, decide_eq_false hOk])
    have hw := which_not hOk
    clear hOk
    rcases hw with q0 | ⟨q0, q1⟩ | ⟨q0, q1, q2⟩ | ⟨q0, q1, q2, q3⟩ | ⟨q0, q1, q2, q3, q4⟩ | ⟨q0, q1, q2, q3, q4, q5⟩ | ⟨q0, q1, q2, q3, q4, q5, q6⟩ | ⟨q0, q1, q2, q3, q4, q5, q6, q7⟩ | ⟨q0, q1, q2, q3, q4, q5, q6, q7, q8⟩ | ⟨q0, q1, q2, q3, q4, q5, q6, q7, q8, q9⟩ | ⟨q0, q1, q2, q3, q4, q5, q6, q7, q8, q9, q10⟩ | ⟨q0, q1, q2, q3, q4, q5, q6, q7, q8, q9, q10, q11⟩
    all_goals
      go_enter Try.func11, Try.ntmps11
      go_wp2_with fail
      refine (paternosterlaw04_awake.calls true _ rfl).mono ?_
      rintro e w1 ⟨rfl, hb⟩
      have RB1 := Aside0.mk (show RB w.heap.size R w1 from blk_below (blk_new w _) hb)
      have B1 := Aside0.mk (below_step (below_alloc (Below.refl w.heap.size w) _) hb)
      clear hb
      obtain ⟨b0, b1, b2, b3, b4, b5⟩ := six_of RB1.out
      go_wp2_with fail
      refine (new_no R _ HC.out).mono ?_
      rintro e w2 ⟨rfl, hb⟩
      have RB2 := Aside0.mk (show RB w.heap.size R w2 from blk_below RB1.out hb)
      have B2 := Aside0.mk (below_step B1.out hb)
      clear hb b0 b1 b2 b3 b4 b5
      obtain ⟨b0, b1, b2, b3, b4, b5⟩ := six_of RB2.out
      go_wp2_with fail
      refine (rates_Check.calls _ _ _ _ _ _ _ _ HC.out).mono ?_
      rintro e w3 ⟨rfl, hb⟩
      have B3 := Aside0.mk (below_step B2.out hb)
      clear hb
      go_wp2_with (first | (go_at_call 35; refine (peak_nil _ _ _).mono ?_; rintro e w4 ⟨rfl, rfl⟩) | (go_at_call 36; refine (most_nil _).mono ?_; rintro e w4 ⟨rfl, rfl⟩) | (go_at_call 37; refine (laid_nil _).mono ?_; rintro e w4 ⟨rfl, rfl⟩))
      go_ret
      exact ⟨rfl, B3.out⟩
end Go.Proofs.Ytomaojmccchibaa.X
