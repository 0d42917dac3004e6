/- RatesBounds, walked: nothing that is done on a way draws more than the way's peak, and no peak is above the most; not both ways give back, and what gives back doesn't pull. -/
import Derived.Test.YtomaojmccchibaaRatesReg
namespace Go.Proofs.Ytomaojmccchibaa.X
open Go.RowKit Go.Proofs.YtomaojmccchibaaW.PrintWords Go.Proofs.YtomaojmccchibaaW.PrintLast Go.Proofs.YtomaojmccchibaaW.PrintMore
attribute [local go_sem] max2_mx min2_mn max_two min_two
set_option linter.unusedVariables false
set_option linter.unusedSimpArgs false

def paternosterlaw04_RatesBounds.f (a0_0 a0_1 a0_2 a0_3 a0_4 a0_5 a1 a2 a3 : Int) : Option Bool := if -9223372036854775808 ≤ a3 ∧ a3 ≤ 9223372036854775807 then some true else none
theorem dv_pk {R : S36} (h : Ok R) (what load dir : Int) : dv R what load dir ≤ pk R load dir := by
  have b1 := dv_bd h 1 load dir
  have b2 := dv_bd h 2 load dir
  have b3 := dv_bd h 3 load dir
  have b4 := dv_bd h 4 load dir
  have hc : dv R what load dir = dv R 1 load dir ∨ dv R what load dir = dv R 2 load dir ∨ dv R what load dir = dv R 3 load dir ∨ dv R what load dir = dv R 4 load dir ∨ dv R what load dir = 0 := by
    rcases (show what = 1 ∨ what = 2 ∨ what = 3 ∨ what = 4 ∨ what ≤ 0 ∨ what > 4 by omega) with h | h | h | h | h | h
    · subst h; simp
    · subst h; simp
    · subst h; simp
    · subst h; simp
    · right; right; right; right; unfold dv; rw [if_neg (show ¬ what = 4 by omega), if_pos h]; split <;> rfl
    · right; right; right; right; unfold dv; rw [if_neg (show ¬ what = 4 by omega), if_neg (show ¬ what ≤ 0 by omega), if_pos h]; split <;> rfl
  unfold pk mx
  repeat' split
  all_goals omega
theorem mK_bd {R : S36} (h : Ok R) (n : Nat) : 0 ≤ mK (pV R) (qV R) n ∧ mK (pV R) (qV R) n ≤ 9400 := by
  induction n with
  | zero => simp [mK]
  | succ n ih =>
    have b1 := pk_bd h (n : Int) 1
    have b2 := pk_bd h (n : Int) (-1)
    have e1 : pV R n = pk R (n : Int) 1 := rfl
    have e2 : qV R n = pk R (n : Int) (-1) := rfl
    simp only [mK]
    rw [e1, e2]
    unfold mx
    repeat' split
    all_goals omega
theorem mK_ge {p q : Nat → Int} {n i : Nat} (hi : i < n) : p i ≤ mK p q n ∧ q i ≤ mK p q n := by
  induction n with
  | zero => omega
  | succ n ih =>
    simp only [mK]
    rcases Nat.lt_or_eq_of_le (Nat.le_of_lt_succ hi) with h | h
    · have := ih h
      unfold mx
      repeat' split
      all_goals omega
    · subst h
      unfold mx
      repeat' split
      all_goals omega
theorem clampN_lt (load : Int) : clampN load < 65 := by
  have h1 := cl_bd load
  have h2 := clampN_cl load
  omega
theorem peakV_most {R : S36} (h : Ok R) (load dir : Int) : peakV R (pV R) (qV R) load dir ≤ mK (pV R) (qV R) 65 := by
  have hg := mK_ge (p := pV R) (q := qV R) (clampN_lt load)
  have h4 : R.f4 ≤ pV R (clampN load) := by
    have := dv_pk h 4 ((clampN load : Nat) : Int) 1
    simpa [dv, pV] using this
  unfold peakV
  split
  · exact hg.1
  · split
    · exact hg.2
    · exact Int.le_trans h4 hg.1
/-- The other way. -/
theorem hv_turn {R : S36} {load dir dir' : Int} (h : (dir > 0 ↔ dir' < 0) ∧ (dir < 0 ↔ dir' > 0)) : hv R load dir' = -hv R load dir := by
  unfold hv
  by_cases h1 : dir > 0
  · rw [if_pos h1, if_neg (by have := h.1.1 h1; omega), if_pos (h.1.1 h1)]; omega
  · by_cases h2 : dir < 0
    · rw [if_neg h1, if_pos h2, if_pos (h.2.1 h2)]; omega
    · rw [if_neg h1, if_neg h2, if_neg (fun hh => h2 (h.2.2 hh)), if_neg (fun hh => h1 (h.1.2 hh))]; rfl
theorem bounds_facts {R : S36} (h : Ok R) (what load dir dir' : Int) (hd : (dir > 0 ↔ dir' < 0) ∧ (dir < 0 ↔ dir' > 0)) :
    ∃ d p g k m : Int, rates_Draw.f 1 R.f0 R.f1 R.f2 R.f3 R.f4 R.f5 what load dir = some d ∧ peakV R (pV R) (qV R) load dir = p ∧ rates_Gives.f R.f0 R.f1 R.f2 R.f3 R.f4 R.f5 what load dir = some g ∧ rates_Gives.f R.f0 R.f1 R.f2 R.f3 R.f4 R.f5 what load dir' = some k ∧ mK (pV R) (qV R) 65 = m ∧
      0 ≤ d ∧ d ≤ p ∧ p ≤ m ∧ 0 ≤ g ∧ m ≤ 9400 ∧ (dir ≠ 0 → g > 0 → k = 0 ∧ d = R.f0 + R.f1) := by
  refine ⟨_, _, _, _, _, draw_f h _ _ _ 1 (by omega), rfl, gives_f h _ _ _, gives_f h _ _ _, rfl, (dv_bd h _ _ _).1, by rw [peakV_pk h]; exact dv_pk h _ _ _, peakV_most h _ _, (gv_bd h _ _ _).1, (mK_bd h _).2, fun hz hg => ?_⟩
  have hw : (what = 2 ∨ what = 3) ∧ 0 < R.f3 * mx (-hv R load dir) 0 := by
    unfold gv at hg
    by_cases c1 : what = 2
    · rw [if_pos c1] at hg; exact ⟨.inl c1, hg⟩
    · by_cases c2 : what = 3
      · rw [if_neg c1, if_pos c2] at hg; exact ⟨.inr c2, hg⟩
      · rw [if_neg c1, if_neg c2] at hg; omega
  have hneg : hv R load dir < 0 := by
    by_cases c : hv R load dir < 0
    · exact c
    · have : mx (-hv R load dir) 0 = 0 := by unfold mx; split <;> omega
      rw [this, Int.mul_zero] at hw; omega
  have e1 : mx (hv R load dir) 0 = 0 := by unfold mx; rw [if_pos hneg]
  refine ⟨?_, ?_⟩
  · unfold gv
    rw [hv_turn hd, Int.neg_neg, e1, Int.mul_zero]
    split
    · rfl
    · split <;> rfl
  · unfold dv
    rw [if_neg (by omega), if_neg hz, if_neg (by omega), if_neg (by omega), if_neg (by omega), e1, Int.mul_zero, Int.add_zero]
set_option maxRecDepth 100000 in
set_option maxHeartbeats 8000000 in
theorem paternosterlaw04_RatesBounds.calls (a0_0 a0_1 a0_2 a0_3 a0_4 a0_5 a1 a2 a3 : Int) (r : Bool) (w : World) (h : paternosterlaw04_RatesBounds.f a0_0 a0_1 a0_2 a0_3 a0_4 a0_5 a1 a2 a3 = some r) :
    Calls Try.prog 13 #[.agg #[.int .i64 a0_0, .int .i64 a0_1, .int .i64 a0_2, .int .i64 a0_3, .int .i64 a0_4, .int .i64 a0_5], .int .i64 a1, .int .i64 a2, .int .i64 a3] w fun e w' => e = .returned (.bool r) ∧ Below w.heap.size w w' := by
  unfold paternosterlaw04_RatesBounds.f at h
  by_cases hcond : -9223372036854775808 ≤ a3 ∧ a3 ≤ 9223372036854775807
  rotate_left
  · rw [if_neg hcond] at h; cases h
  rw [if_pos hcond] at h
  obtain rfl := Option.some.inj h
  clear h
  obtain ⟨R, hR⟩ : ∃ R : S36, R = ⟨a0_0, a0_1, a0_2, a0_3, a0_4, a0_5⟩ := ⟨_, rfl⟩
  obtain ⟨rfl, rfl, rfl, rfl, rfl, rfl⟩ : a0_0 = R.f0 ∧ a0_1 = R.f1 ∧ a0_2 = R.f2 ∧ a0_3 = R.f3 ∧ a0_4 = R.f4 ∧ a0_5 = R.f5 := by subst hR; exact ⟨rfl, rfl, rfl, rfl, rfl, rfl⟩
  clear hR
  by_cases hOk : Ok R
  · have HC := Aside0.mk (show rates_Check.f R.f0 R.f1 R.f2 R.f3 R.f4 R.f5 = some true by rw [check_f, decide_eq_true hOk])
    have HP := Aside0.mk (peaks_of hOk)
    have i0 := hOk.1.1
    have i1 := hOk.1.2
    have j0 := hOk.2.1.1
    have j1 := hOk.2.1.2
    obtain ⟨e, he⟩ : ∃ e, wrap64 (wrap64 (-wrap64 (a3.tdiv 2)) - a3.tmod 2) = e := ⟨_, rfl⟩
    have hde : (a3 > 0 ↔ e < 0) ∧ (a3 < 0 ↔ e > 0) := by
      rw [← he]
      by_cases h : 0 ≤ a3
      · rw [Int.tdiv_eq_ediv_of_nonneg h, Int.tmod_eq_emod_of_nonneg h, wrap_in (x := a3 / 2) (by omega) (by omega), wrap_in (x := -(a3 / 2)) (by omega) (by omega), wrap_in (by omega) (by omega)]
        omega
      · obtain ⟨n, rfl⟩ : ∃ n : Int, a3 = -n := ⟨-a3, by omega⟩
        rw [Int.neg_tdiv, Int.neg_tmod, Int.tdiv_eq_ediv_of_nonneg (show 0 ≤ n by omega), Int.tmod_eq_emod_of_nonneg (show 0 ≤ n by omega), wrap_in (x := -(n / 2)) (by omega) (by omega), wrap_in (x := -(-(n / 2))) (by omega) (by omega), wrap_in (by omega) (by omega)]
        omega
    obtain ⟨d, p, x, k, m, d1, z1, g1, g2, m1, u1, u2, u3, u4, u5, u6⟩ := bounds_facts hOk a1 a2 a3 e hde
    have D1 := Aside0.mk d1
    have G1 := Aside0.mk g1
    have G2 := Aside0.mk g2
    have Z1 := Aside0.mk z1
    have M1 := Aside0.mk m1
    have HE := Aside0.mk he
    clear d1 g1 g2 z1 m1 he hOk hde hcond
    by_cases hx : x > 0
    · by_cases hz : a3 = 0
      · have hzb : (a3 != 0) = false := by simp [hz]
        clear u6 hz
        go_enter Try.func13, Try.ntmps13
        go_wp2_with fail
        refine (paternosterlaw04_awake.calls true _ rfl).mono ?_
        rintro e w1 ⟨rfl, hb⟩
        have RB1 := Aside0.mk (show RB w.heap.size R w1 from blk_below (blk_new w _) hb)
        have B1 := Aside0.mk (below_step (below_alloc (Below.refl w.heap.size w) _) hb)
        clear hb
        obtain ⟨b0, b1, b2, b3, b4, b5⟩ := six_of RB1.out
        go_wp2_with fail
        refine (rates_Check.calls _ _ _ _ _ _ _ _ HC.out).mono ?_
        rintro e w2 ⟨rfl, hb⟩
        have RB2 := Aside0.mk (show RB w.heap.size R w2 from blk_below RB1.out hb)
        have B2 := Aside0.mk (below_step B1.out hb)
        clear hb b0 b1 b2 b3 b4 b5
        obtain ⟨b0, b1, b2, b3, b4, b5⟩ := six_of RB2.out
        go_wp2_with fail
        refine (new_RG RB2.out B2.out (blk_lt RB2.out) HC.out).mono ?_
        rintro e w3 ⟨g, rfl, hR3, hg3, hb3, hrg⟩
        have HF := Aside0.mk ((hrg (pV R) (qV R)))
        clear hR3 hg3 hb3 hrg b0 b1 b2 b3 b4 b5
        obtain ⟨b0, b1, b2, b3, b4, b5⟩ := HF.out.six
        go_wp2_with (first
          | (go_at_call 29; (with_reducible refine (draw_RG HF.out D1.out).mono ?_); rintro e w4 ⟨rfl, F⟩; have n_ := Aside0.mk F; clear HF b0 b1 b2 b3 b4 b5; have HF := n_; clear n_ F; obtain ⟨b0, b1, b2, b3, b4, b5⟩ := HF.out.six)
          | (go_at_call 32; (with_reducible refine (gives_RG HF.out G1.out).mono ?_); rintro e w4 ⟨rfl, F⟩; have n_ := Aside0.mk F; clear HF b0 b1 b2 b3 b4 b5; have HF := n_; clear n_ F; obtain ⟨b0, b1, b2, b3, b4, b5⟩ := HF.out.six)
          | (go_at_call 32; (with_reducible refine (gives_RG HF.out G2.out).mono ?_); rintro e w4 ⟨rfl, F⟩; have n_ := Aside0.mk F; clear HF b0 b1 b2 b3 b4 b5; have HF := n_; clear n_ F; obtain ⟨b0, b1, b2, b3, b4, b5⟩ := HF.out.six)
          | (go_at_call 35; (with_reducible refine (peak_RG HF.out HP.out Z1.out).mono ?_); rintro e w4 ⟨rfl, F⟩; have n_ := Aside0.mk F; clear HF b0 b1 b2 b3 b4 b5; have HF := n_; clear n_ F; obtain ⟨b0, b1, b2, b3, b4, b5⟩ := HF.out.six)
          | (go_at_call 36; (with_reducible refine (most_RG HF.out HP.out M1.out).mono ?_); rintro e w4 ⟨rfl, F⟩; have n_ := Aside0.mk F; clear HF b0 b1 b2 b3 b4 b5; have HF := n_; clear n_ F; obtain ⟨b0, b1, b2, b3, b4, b5⟩ := HF.out.six)
          | (simp only [HE.out]))
        all_goals (go_ret; exact ⟨rfl, HF.out.2.2.1⟩)
      · obtain ⟨rfl, rfl⟩ := u6 hz hx
        have hzb : (a3 != 0) = true := by simp [hz]
        clear hz u6
        go_enter Try.func13, Try.ntmps13
        go_wp2_with fail
        refine (paternosterlaw04_awake.calls true _ rfl).mono ?_
        rintro e w1 ⟨rfl, hb⟩
        have RB1 := Aside0.mk (show RB w.heap.size R w1 from blk_below (blk_new w _) hb)
        have B1 := Aside0.mk (below_step (below_alloc (Below.refl w.heap.size w) _) hb)
        clear hb
        obtain ⟨b0, b1, b2, b3, b4, b5⟩ := six_of RB1.out
        go_wp2_with fail
        refine (rates_Check.calls _ _ _ _ _ _ _ _ HC.out).mono ?_
        rintro e w2 ⟨rfl, hb⟩
        have RB2 := Aside0.mk (show RB w.heap.size R w2 from blk_below RB1.out hb)
        have B2 := Aside0.mk (below_step B1.out hb)
        clear hb b0 b1 b2 b3 b4 b5
        obtain ⟨b0, b1, b2, b3, b4, b5⟩ := six_of RB2.out
        go_wp2_with fail
        refine (new_RG RB2.out B2.out (blk_lt RB2.out) HC.out).mono ?_
        rintro e w3 ⟨g, rfl, hR3, hg3, hb3, hrg⟩
        have HF := Aside0.mk ((hrg (pV R) (qV R)))
        clear hR3 hg3 hb3 hrg b0 b1 b2 b3 b4 b5
        obtain ⟨b0, b1, b2, b3, b4, b5⟩ := HF.out.six
        go_wp2_with (first
          | (go_at_call 29; (with_reducible refine (draw_RG HF.out D1.out).mono ?_); rintro e w4 ⟨rfl, F⟩; have n_ := Aside0.mk F; clear HF b0 b1 b2 b3 b4 b5; have HF := n_; clear n_ F; obtain ⟨b0, b1, b2, b3, b4, b5⟩ := HF.out.six)
          | (go_at_call 32; (with_reducible refine (gives_RG HF.out G1.out).mono ?_); rintro e w4 ⟨rfl, F⟩; have n_ := Aside0.mk F; clear HF b0 b1 b2 b3 b4 b5; have HF := n_; clear n_ F; obtain ⟨b0, b1, b2, b3, b4, b5⟩ := HF.out.six)
          | (go_at_call 32; (with_reducible refine (gives_RG HF.out G2.out).mono ?_); rintro e w4 ⟨rfl, F⟩; have n_ := Aside0.mk F; clear HF b0 b1 b2 b3 b4 b5; have HF := n_; clear n_ F; obtain ⟨b0, b1, b2, b3, b4, b5⟩ := HF.out.six)
          | (go_at_call 35; (with_reducible refine (peak_RG HF.out HP.out Z1.out).mono ?_); rintro e w4 ⟨rfl, F⟩; have n_ := Aside0.mk F; clear HF b0 b1 b2 b3 b4 b5; have HF := n_; clear n_ F; obtain ⟨b0, b1, b2, b3, b4, b5⟩ := HF.out.six)
          | (go_at_call 36; (with_reducible refine (most_RG HF.out HP.out M1.out).mono ?_); rintro e w4 ⟨rfl, F⟩; have n_ := Aside0.mk F; clear HF b0 b1 b2 b3 b4 b5; have HF := n_; clear n_ F; obtain ⟨b0, b1, b2, b3, b4, b5⟩ := HF.out.six)
          | (simp only [HE.out]))
        all_goals (go_ret; exact ⟨rfl, HF.out.2.2.1⟩)
    · clear u6
      go_enter Try.func13, Try.ntmps13
      go_wp2_with fail
      refine (paternosterlaw04_awake.calls true _ rfl).mono ?_
      rintro e w1 ⟨rfl, hb⟩
      have RB1 := Aside0.mk (show RB w.heap.size R w1 from blk_below (blk_new w _) hb)
      have B1 := Aside0.mk (below_step (below_alloc (Below.refl w.heap.size w) _) hb)
      clear hb
      obtain ⟨b0, b1, b2, b3, b4, b5⟩ := six_of RB1.out
      go_wp2_with fail
      refine (rates_Check.calls _ _ _ _ _ _ _ _ HC.out).mono ?_
      rintro e w2 ⟨rfl, hb⟩
      have RB2 := Aside0.mk (show RB w.heap.size R w2 from blk_below RB1.out hb)
      have B2 := Aside0.mk (below_step B1.out hb)
      clear hb b0 b1 b2 b3 b4 b5
      obtain ⟨b0, b1, b2, b3, b4, b5⟩ := six_of RB2.out
      go_wp2_with fail
      refine (new_RG RB2.out B2.out (blk_lt RB2.out) HC.out).mono ?_
      rintro e w3 ⟨g, rfl, hR3, hg3, hb3, hrg⟩
      have HF := Aside0.mk ((hrg (pV R) (qV R)))
      clear hR3 hg3 hb3 hrg b0 b1 b2 b3 b4 b5
      obtain ⟨b0, b1, b2, b3, b4, b5⟩ := HF.out.six
      go_wp2_with (first
        | (go_at_call 29; (with_reducible refine (draw_RG HF.out D1.out).mono ?_); rintro e w4 ⟨rfl, F⟩; have n_ := Aside0.mk F; clear HF b0 b1 b2 b3 b4 b5; have HF := n_; clear n_ F; obtain ⟨b0, b1, b2, b3, b4, b5⟩ := HF.out.six)
        | (go_at_call 32; (with_reducible refine (gives_RG HF.out G1.out).mono ?_); rintro e w4 ⟨rfl, F⟩; have n_ := Aside0.mk F; clear HF b0 b1 b2 b3 b4 b5; have HF := n_; clear n_ F; obtain ⟨b0, b1, b2, b3, b4, b5⟩ := HF.out.six)
        | (go_at_call 32; (with_reducible refine (gives_RG HF.out G2.out).mono ?_); rintro e w4 ⟨rfl, F⟩; have n_ := Aside0.mk F; clear HF b0 b1 b2 b3 b4 b5; have HF := n_; clear n_ F; obtain ⟨b0, b1, b2, b3, b4, b5⟩ := HF.out.six)
        | (go_at_call 35; (with_reducible refine (peak_RG HF.out HP.out Z1.out).mono ?_); rintro e w4 ⟨rfl, F⟩; have n_ := Aside0.mk F; clear HF b0 b1 b2 b3 b4 b5; have HF := n_; clear n_ F; obtain ⟨b0, b1, b2, b3, b4, b5⟩ := HF.out.six)
        | (go_at_call 36; (with_reducible refine (most_RG HF.out HP.out M1.out).mono ?_); rintro e w4 ⟨rfl, F⟩; have n_ := Aside0.mk F; clear HF b0 b1 b2 b3 b4 b5; have HF := n_; clear n_ F; obtain ⟨b0, b1, b2, b3, b4, b5⟩ := HF.out.six)
        | (simp only [HE.out]))
      all_goals (go_ret; exact ⟨rfl, HF.out.2.2.1⟩)
  · have HC := Aside0.mk (show rates_Check.f R.f0 R.f1 R.f2 R.f3 R.f4 R.f5 = some false by rw [check_f, decide_eq_false hOk])
    clear hOk
    go_enter Try.func13, Try.ntmps13
    go_wp2_with fail
    refine (paternosterlaw04_awake.calls true _ rfl).mono ?_
    rintro e w1 ⟨rfl, hb⟩
    have RB1 := Aside0.mk (show RB w.heap.size R w1 from blk_below (blk_new w _) hb)
    have B1 := Aside0.mk (below_step (below_alloc (Below.refl w.heap.size w) _) hb)
    clear hb
    obtain ⟨b0, b1, b2, b3, b4, b5⟩ := six_of RB1.out
    go_wp2_with fail
    refine (rates_Check.calls _ _ _ _ _ _ _ _ HC.out).mono ?_
    rintro e w2 ⟨rfl, hb⟩
    have B2 := Aside0.mk (below_step B1.out hb)
    clear hb
    go_wp2_with fail
    go_ret
    exact ⟨rfl, B2.out⟩
end Go.Proofs.Ytomaojmccchibaa.X
