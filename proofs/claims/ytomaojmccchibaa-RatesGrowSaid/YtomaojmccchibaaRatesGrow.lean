/- RatesGrow, walked: upwards a heavier load draws no less, and gives no more; downwards it draws no more, and gives no less. -/
import Derived.Test.YtomaojmccchibaaRatesReg
namespace Go.Proofs.Ytomaojmccchibaa.X
open Go.RowKit Go.Proofs.YtomaojmccchibaaW.PrintWords Go.Proofs.YtomaojmccchibaaW.PrintLast Go.Proofs.YtomaojmccchibaaW.PrintMore
attribute [local go_sem] max2_mx min2_mn max_two min_two
set_option linter.unusedVariables false
set_option linter.unusedSimpArgs false

def paternosterlaw04_RatesGrow.f (a0_0 a0_1 a0_2 a0_3 a0_4 a0_5 a1 a2 a3 : Int) : Option Bool := if 0 ≤ a2 ∧ a2 ≤ 255 then some true else none
theorem mul_mono {x y p : Int} (hp : 0 ≤ p) (h : x ≤ y) : p * mx x 0 ≤ p * mx y 0 := by
  have hm : mx x 0 ≤ mx y 0 := by
    unfold mx
    repeat' split
    all_goals omega
  exact Int.mul_le_mul_of_nonneg_left hm hp
theorem hv_grow {R : S36} {l dir : Int} (h0 : 0 ≤ l) (h1 : l < 64) : (dir > 0 → hv R l dir ≤ hv R (l + 1) dir) ∧ (¬ dir > 0 → hv R (l + 1) dir ≤ hv R l dir) := by
  unfold hv
  rw [cl_in (x := l) h0 (by omega), cl_in (x := l + 1) (by omega) (by omega)]
  refine ⟨fun h => ?_, fun h => ?_⟩
  · rw [if_pos h, if_pos h]; omega
  · rw [if_neg h, if_neg h]; split <;> omega
theorem dv_mono {R : S36} (h : Ok R) {what l l' dir : Int} (hh : hv R l dir ≤ hv R l' dir) : dv R what l dir ≤ dv R what l' dir := by
  have hp := mul_mono h.2.2.2.2.1.1 hh
  unfold dv
  repeat' split
  all_goals omega
theorem gv_mono {R : S36} (h : Ok R) {what l l' dir : Int} (hh : hv R l dir ≤ hv R l' dir) : gv R what l' dir ≤ gv R what l dir := by
  have hp := mul_mono (x := -hv R l' dir) (y := -hv R l dir) h.2.2.2.2.1.1 (by omega)
  unfold gv
  repeat' split
  all_goals omega
theorem pk_mono {R : S36} (h : Ok R) {l l' dir : Int} (hh : hv R l dir ≤ hv R l' dir) : pk R l dir ≤ pk R l' dir := by
  have d1 := dv_mono h (what := 1) hh
  have d2 := dv_mono h (what := 2) hh
  have d3 := dv_mono h (what := 3) hh
  have d4 := dv_mono h (what := 4) hh
  unfold pk
  have hm : ∀ {a b c d : Int}, a ≤ b → c ≤ d → mx a c ≤ mx b d := by
    intro a b c d h1 h2
    unfold mx
    repeat' split
    all_goals omega
  exact hm (hm (hm (hm (Int.le_refl _) d1) d2) d3) d4
theorem grow_facts {R : S36} (h : Ok R) (what l dir : Int) (h0 : 0 ≤ l) (h1 : l < 64) :
    ∃ a b g k p q : Int, rates_Draw.f 1 R.f0 R.f1 R.f2 R.f3 R.f4 R.f5 what l dir = some a ∧ rates_Draw.f 1 R.f0 R.f1 R.f2 R.f3 R.f4 R.f5 what (l + 1) dir = some b ∧ rates_Gives.f R.f0 R.f1 R.f2 R.f3 R.f4 R.f5 what l dir = some g ∧ rates_Gives.f R.f0 R.f1 R.f2 R.f3 R.f4 R.f5 what (l + 1) dir = some k ∧
      peakV R (pV R) (qV R) l dir = p ∧ peakV R (pV R) (qV R) (l + 1) dir = q ∧ (dir > 0 → a ≤ b ∧ k ≤ g ∧ p ≤ q) ∧ (¬ dir > 0 → b ≤ a ∧ g ≤ k ∧ q ≤ p) :=
  ⟨_, _, _, _, _, _, draw_f h _ _ _ 1 (by omega), draw_f h _ _ _ 1 (by omega), gives_f h _ _ _, gives_f h _ _ _, peakV_pk h _ _, peakV_pk h _ _,
    fun hd => have hh := (hv_grow (R := R) h0 h1).1 hd; ⟨dv_mono h hh, gv_mono h hh, pk_mono h hh⟩, fun hd => have hh := (hv_grow (R := R) h0 h1).2 hd; ⟨dv_mono h hh, gv_mono h hh, pk_mono h hh⟩⟩
set_option maxRecDepth 100000 in
set_option maxHeartbeats 8000000 in
theorem paternosterlaw04_RatesGrow.calls (a0_0 a0_1 a0_2 a0_3 a0_4 a0_5 a1 a2 a3 : Int) (r : Bool) (w : World) (h : paternosterlaw04_RatesGrow.f a0_0 a0_1 a0_2 a0_3 a0_4 a0_5 a1 a2 a3 = some r) :
    Calls Try.prog 9 #[.agg #[.int .i64 a0_0, .int .i64 a0_1, .int .i64 a0_2, .int .i64 a0_3, .int .i64 a0_4, .int .i64 a0_5], .int .i64 a1, .int .u8 a2, .int .i64 a3] w fun e w' => e = .returned (.bool r) ∧ Below w.heap.size w w' := by
  unfold paternosterlaw04_RatesGrow.f at h
  by_cases hcond : 0 ≤ a2 ∧ a2 ≤ 255
  rotate_left
  · rw [if_neg hcond] at h; cases h
  rw [if_pos hcond] at h
  obtain rfl := Option.some.inj h
  clear h
  obtain ⟨R, hR⟩ : ∃ R : S36, R = ⟨a0_0, a0_1, a0_2, a0_3, a0_4, a0_5⟩ := ⟨_, rfl⟩
  obtain ⟨rfl, rfl, rfl, rfl, rfl, rfl⟩ : a0_0 = R.f0 ∧ a0_1 = R.f1 ∧ a0_2 = R.f2 ∧ a0_3 = R.f3 ∧ a0_4 = R.f4 ∧ a0_5 = R.f5 := by subst hR; exact ⟨rfl, rfl, rfl, rfl, rfl, rfl⟩
  clear hR
  by_cases hOk : Ok R
  · have HC := Aside0.mk (show rates_Check.f R.f0 R.f1 R.f2 R.f3 R.f4 R.f5 = some true by rw [check_f, decide_eq_true hOk])
    have HP := Aside0.mk (peaks_of hOk)
    obtain ⟨l, hl, hl0, hl1⟩ : ∃ l : Int, a2 % 64 = l ∧ 0 ≤ l ∧ l < 64 := ⟨_, rfl, by omega, by omega⟩
    obtain ⟨a, b, x, y, p, q, d1, d2, g1, g2, z1, z2, up, down⟩ := grow_facts hOk a1 l a3 hl0 hl1
    have c0 := hcond.1
    have c1 := hcond.2
    have D1 := Aside0.mk d1
    have D2 := Aside0.mk d2
    have G1 := Aside0.mk g1
    have G2 := Aside0.mk g2
    have Z1 := Aside0.mk z1
    have Z2 := Aside0.mk z2
    have HL := Aside0.mk hl
    clear d1 d2 g1 g2 z1 z2 hl hOk hcond
    by_cases hd : a3 > 0
    · obtain ⟨u1, u2, u3⟩ := up hd
      clear up down
      go_enter Try.func9, Try.ntmps9
      go_wp2_with fail
      refine (paternosterlaw04_awake.calls true _ rfl).mono ?_
      rintro e w1 ⟨rfl, hb⟩
      have RB1 := Aside0.mk (show RB w.heap.size R w1 from blk_below (blk_new w _) hb)
      have B1 := Aside0.mk (below_step (below_alloc (Below.refl w.heap.size w) _) hb)
      clear hb
      obtain ⟨b0, b1, b2, b3, b4, b5⟩ := six_of RB1.out
      go_wp2_with fail
      refine (rates_Check.calls _ _ _ _ _ _ _ _ HC.out).mono ?_
      rintro e w2 ⟨rfl, hb⟩
      have RB2 := Aside0.mk (show RB w.heap.size R w2 from blk_below RB1.out hb)
      have B2 := Aside0.mk (below_step B1.out hb)
      clear hb b0 b1 b2 b3 b4 b5
      obtain ⟨b0, b1, b2, b3, b4, b5⟩ := six_of RB2.out
      go_wp2_with (simp only [HL.out])
      refine (new_RG RB2.out B2.out (blk_lt RB2.out) HC.out).mono ?_
      rintro e w3 ⟨g, rfl, hR3, hg3, hb3, hrg⟩
      have HF := Aside0.mk ((hrg (pV R) (qV R)))
      clear hR3 hg3 hb3 hrg b0 b1 b2 b3 b4 b5
      obtain ⟨b0, b1, b2, b3, b4, b5⟩ := HF.out.six
      go_wp2_with (first
        | (go_at_call 29; (with_reducible refine (draw_RG HF.out D1.out).mono ?_); rintro e w4 ⟨rfl, F⟩; have n_ := Aside0.mk F; clear HF b0 b1 b2 b3 b4 b5; have HF := n_; clear n_ F; obtain ⟨b0, b1, b2, b3, b4, b5⟩ := HF.out.six)
        | (go_at_call 29; (with_reducible refine (draw_RG HF.out D2.out).mono ?_); rintro e w4 ⟨rfl, F⟩; have n_ := Aside0.mk F; clear HF b0 b1 b2 b3 b4 b5; have HF := n_; clear n_ F; obtain ⟨b0, b1, b2, b3, b4, b5⟩ := HF.out.six)
        | (go_at_call 32; (with_reducible refine (gives_RG HF.out G1.out).mono ?_); rintro e w4 ⟨rfl, F⟩; have n_ := Aside0.mk F; clear HF b0 b1 b2 b3 b4 b5; have HF := n_; clear n_ F; obtain ⟨b0, b1, b2, b3, b4, b5⟩ := HF.out.six)
        | (go_at_call 32; (with_reducible refine (gives_RG HF.out G2.out).mono ?_); rintro e w4 ⟨rfl, F⟩; have n_ := Aside0.mk F; clear HF b0 b1 b2 b3 b4 b5; have HF := n_; clear n_ F; obtain ⟨b0, b1, b2, b3, b4, b5⟩ := HF.out.six)
        | (go_at_call 35; (with_reducible refine (peak_RG HF.out HP.out Z1.out).mono ?_); rintro e w4 ⟨rfl, F⟩; have n_ := Aside0.mk F; clear HF b0 b1 b2 b3 b4 b5; have HF := n_; clear n_ F; obtain ⟨b0, b1, b2, b3, b4, b5⟩ := HF.out.six)
        | (go_at_call 35; (with_reducible refine (peak_RG HF.out HP.out Z2.out).mono ?_); rintro e w4 ⟨rfl, F⟩; have n_ := Aside0.mk F; clear HF b0 b1 b2 b3 b4 b5; have HF := n_; clear n_ F; obtain ⟨b0, b1, b2, b3, b4, b5⟩ := HF.out.six)
        | (simp only [HL.out]))
      go_ret
      exact ⟨rfl, HF.out.2.2.1⟩
    · obtain ⟨u1, u2, u3⟩ := down hd
      clear up down
      go_enter Try.func9, Try.ntmps9
      go_wp2_with fail
      refine (paternosterlaw04_awake.calls true _ rfl).mono ?_
      rintro e w1 ⟨rfl, hb⟩
      have RB1 := Aside0.mk (show RB w.heap.size R w1 from blk_below (blk_new w _) hb)
      have B1 := Aside0.mk (below_step (below_alloc (Below.refl w.heap.size w) _) hb)
      clear hb
      obtain ⟨b0, b1, b2, b3, b4, b5⟩ := six_of RB1.out
      go_wp2_with fail
      refine (rates_Check.calls _ _ _ _ _ _ _ _ HC.out).mono ?_
      rintro e w2 ⟨rfl, hb⟩
      have RB2 := Aside0.mk (show RB w.heap.size R w2 from blk_below RB1.out hb)
      have B2 := Aside0.mk (below_step B1.out hb)
      clear hb b0 b1 b2 b3 b4 b5
      obtain ⟨b0, b1, b2, b3, b4, b5⟩ := six_of RB2.out
      go_wp2_with (simp only [HL.out])
      refine (new_RG RB2.out B2.out (blk_lt RB2.out) HC.out).mono ?_
      rintro e w3 ⟨g, rfl, hR3, hg3, hb3, hrg⟩
      have HF := Aside0.mk ((hrg (pV R) (qV R)))
      clear hR3 hg3 hb3 hrg b0 b1 b2 b3 b4 b5
      obtain ⟨b0, b1, b2, b3, b4, b5⟩ := HF.out.six
      go_wp2_with (first
        | (go_at_call 29; (with_reducible refine (draw_RG HF.out D1.out).mono ?_); rintro e w4 ⟨rfl, F⟩; have n_ := Aside0.mk F; clear HF b0 b1 b2 b3 b4 b5; have HF := n_; clear n_ F; obtain ⟨b0, b1, b2, b3, b4, b5⟩ := HF.out.six)
        | (go_at_call 29; (with_reducible refine (draw_RG HF.out D2.out).mono ?_); rintro e w4 ⟨rfl, F⟩; have n_ := Aside0.mk F; clear HF b0 b1 b2 b3 b4 b5; have HF := n_; clear n_ F; obtain ⟨b0, b1, b2, b3, b4, b5⟩ := HF.out.six)
        | (go_at_call 32; (with_reducible refine (gives_RG HF.out G1.out).mono ?_); rintro e w4 ⟨rfl, F⟩; have n_ := Aside0.mk F; clear HF b0 b1 b2 b3 b4 b5; have HF := n_; clear n_ F; obtain ⟨b0, b1, b2, b3, b4, b5⟩ := HF.out.six)
        | (go_at_call 32; (with_reducible refine (gives_RG HF.out G2.out).mono ?_); rintro e w4 ⟨rfl, F⟩; have n_ := Aside0.mk F; clear HF b0 b1 b2 b3 b4 b5; have HF := n_; clear n_ F; obtain ⟨b0, b1, b2, b3, b4, b5⟩ := HF.out.six)
        | (go_at_call 35; (with_reducible refine (peak_RG HF.out HP.out Z1.out).mono ?_); rintro e w4 ⟨rfl, F⟩; have n_ := Aside0.mk F; clear HF b0 b1 b2 b3 b4 b5; have HF := n_; clear n_ F; obtain ⟨b0, b1, b2, b3, b4, b5⟩ := HF.out.six)
        | (go_at_call 35; (with_reducible refine (peak_RG HF.out HP.out Z2.out).mono ?_); rintro e w4 ⟨rfl, F⟩; have n_ := Aside0.mk F; clear HF b0 b1 b2 b3 b4 b5; have HF := n_; clear n_ F; obtain ⟨b0, b1, b2, b3, b4, b5⟩ := HF.out.six)
        | (simp only [HL.out]))
      go_ret
      exact ⟨rfl, HF.out.2.2.1⟩
  · have HC := Aside0.mk (show rates_Check.f R.f0 R.f1 R.f2 R.f3 R.f4 R.f5 = some false by rw [check_f, decide_eq_false hOk])
    clear hOk
    go_enter Try.func9, Try.ntmps9
    go_wp2_with fail
    refine (paternosterlaw04_awake.calls true _ rfl).mono ?_
    rintro e w1 ⟨rfl, hb⟩
    have RB1 := Aside0.mk (show RB w.heap.size R w1 from blk_below (blk_new w _) hb)
    have B1 := Aside0.mk (below_step (below_alloc (Below.refl w.heap.size w) _) hb)
    clear hb
    obtain ⟨b0, b1, b2, b3, b4, b5⟩ := six_of RB1.out
    go_wp2_with fail
    refine (rates_Check.calls _ _ _ _ _ _ _ _ HC.out).mono ?_
    rintro e w2 ⟨rfl, hb⟩
    have B2 := Aside0.mk (below_step B1.out hb)
    clear hb
    go_wp2_with fail
    go_ret
    exact ⟨rfl, B2.out⟩
end Go.Proofs.Ytomaojmccchibaa.X
