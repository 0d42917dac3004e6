/- RatesMirror, walked: a load as much above the weight upwards draws as one as much below it downwards. -/
import Derived.Test.YtomaojmccchibaaRatesReg
namespace Go.Proofs.Ytomaojmccchibaa.X
open Go.RowKit Go.Proofs.YtomaojmccchibaaW.PrintWords Go.Proofs.YtomaojmccchibaaW.PrintLast Go.Proofs.YtomaojmccchibaaW.PrintMore
attribute [local go_sem] max2_mx min2_mn max_two min_two
set_option linter.unusedVariables false
set_option linter.unusedSimpArgs false

def paternosterlaw04_RatesMirror.f (a0_0 a0_1 a0_2 a0_3 a0_4 a0_5 a1 a2 : Int) : Option Bool := if 0 ≤ a2 ∧ a2 ≤ 255 then some true else none
theorem hv_mirror {R : S36} {x y : Int} (hx0 : 0 ≤ x) (hx1 : x ≤ 64) (hy0 : 0 ≤ y) (hy1 : y ≤ 64) (h : x - R.f5 = R.f5 - y) : hv R x 1 = hv R y (-1) := by
  unfold hv
  rw [cl_in hx0 hx1, cl_in hy0 hy1, if_pos (by omega), if_neg (by omega), if_pos (by omega), h]
theorem dv_mirror {R : S36} {what x y : Int} (h : hv R x 1 = hv R y (-1)) : dv R what x 1 = dv R what y (-1) := by
  unfold dv
  rw [h]
  rfl
theorem pk_mirror {R : S36} {x y : Int} (h : hv R x 1 = hv R y (-1)) : pk R x 1 = pk R y (-1) := by
  unfold pk; rw [dv_mirror (what := 1) h, dv_mirror (what := 2) h, dv_mirror (what := 3) h, dv_mirror (what := 4) h]
theorem mirror_facts {R : S36} (h : Ok R) (what a b : Int) (ha0 : 0 ≤ a) (ha1 : a ≤ 64) (hb0 : 0 ≤ b) (hb1 : b ≤ 64) (hab : a - R.f5 = R.f5 - b) :
    ∃ d g p q : Int, (rates_Draw.f 1 R.f0 R.f1 R.f2 R.f3 R.f4 R.f5 what a 1 = some d ∧ rates_Draw.f 1 R.f0 R.f1 R.f2 R.f3 R.f4 R.f5 what b (-1) = some d) ∧ (rates_Gives.f R.f0 R.f1 R.f2 R.f3 R.f4 R.f5 what b 1 = some g ∧ rates_Gives.f R.f0 R.f1 R.f2 R.f3 R.f4 R.f5 what a (-1) = some g) ∧
      (peakV R (pV R) (qV R) a 1 = p ∧ peakV R (pV R) (qV R) b (-1) = p) ∧ peakV R (pV R) (qV R) b 1 = q ∧ peakV R (pV R) (qV R) a (-1) = q := by
  have m1 := hv_mirror (R := R) ha0 ha1 hb0 hb1 hab
  have m2 := hv_mirror (R := R) hb0 hb1 ha0 ha1 (by omega)
  exact ⟨_, _, _, _, ⟨draw_f h _ _ _ 1 (by omega), (draw_f h _ _ _ 1 (by omega)).trans (by rw [dv_mirror m1])⟩, ⟨gives_f h _ _ _, (gives_f h _ _ _).trans (by unfold gv; rw [m2])⟩, ⟨peakV_pk h _ _, by rw [peakV_pk h, pk_mirror m1]⟩, peakV_pk h _ _, by rw [peakV_pk h, pk_mirror m2]⟩
set_option maxRecDepth 100000 in
set_option maxHeartbeats 8000000 in
theorem paternosterlaw04_RatesMirror.calls (a0_0 a0_1 a0_2 a0_3 a0_4 a0_5 a1 a2 : Int) (r : Bool) (w : World) (h : paternosterlaw04_RatesMirror.f a0_0 a0_1 a0_2 a0_3 a0_4 a0_5 a1 a2 = some r) :
    Calls Try.prog 10 #[.agg #[.int .i64 a0_0, .int .i64 a0_1, .int .i64 a0_2, .int .i64 a0_3, .int .i64 a0_4, .int .i64 a0_5], .int .i64 a1, .int .u8 a2] w fun e w' => e = .returned (.bool r) ∧ Below w.heap.size w w' := by
  unfold paternosterlaw04_RatesMirror.f at h
  by_cases hcond : 0 ≤ a2 ∧ a2 ≤ 255
  rotate_left
  · rw [if_neg hcond] at h; cases h
  rw [if_pos hcond] at h
  obtain rfl := Option.some.inj h
  clear h
  obtain ⟨R, hR⟩ : ∃ R : S36, R = ⟨a0_0, a0_1, a0_2, a0_3, a0_4, a0_5⟩ := ⟨_, rfl⟩
  obtain ⟨rfl, rfl, rfl, rfl, rfl, rfl⟩ : a0_0 = R.f0 ∧ a0_1 = R.f1 ∧ a0_2 = R.f2 ∧ a0_3 = R.f3 ∧ a0_4 = R.f4 ∧ a0_5 = R.f5 := by subst hR; exact ⟨rfl, rfl, rfl, rfl, rfl, rfl⟩
  clear hR
  by_cases hOk : Ok R
  · have HC := Aside0.mk (show rates_Check.f R.f0 R.f1 R.f2 R.f3 R.f4 R.f5 = some true by rw [check_f, decide_eq_true hOk])
    have HP := Aside0.mk (peaks_of hOk)
    have c0 := hcond.1
    have c1 := hcond.2
    have w0 := hOk.2.2.2.2.2.1
    have w1 := hOk.2.2.2.2.2.2
    obtain ⟨a, ha⟩ : ∃ a, R.f5 + a2 = a := ⟨_, rfl⟩
    obtain ⟨b, hb⟩ : ∃ b, R.f5 - a2 = b := ⟨_, rfl⟩
    have ha0 : 0 ≤ a := by omega
    have hb1 : b ≤ 64 := by omega
    by_cases h1 : a > 64
    · have HA := Aside0.mk ha
      have HB := Aside0.mk hb
      clear ha hb hOk hcond
      go_enter Try.func10, Try.ntmps10
      go_wp2_with fail
      refine (paternosterlaw04_awake.calls true _ rfl).mono ?_
      rintro e w1 ⟨rfl, hb⟩
      have RB1 := Aside0.mk (show RB w.heap.size R w1 from blk_below (blk_new w _) hb)
      have B1 := Aside0.mk (below_step (below_alloc (Below.refl w.heap.size w) _) hb)
      clear hb
      obtain ⟨b0, b1, b2, b3, b4, b5⟩ := six_of RB1.out
      go_wp2_with fail
      refine (rates_Check.calls _ _ _ _ _ _ _ _ HC.out).mono ?_
      rintro e w2 ⟨rfl, hb⟩
      have RB2 := Aside0.mk (show RB w.heap.size R w2 from blk_below RB1.out hb)
      have B2 := Aside0.mk (below_step B1.out hb)
      clear hb b0 b1 b2 b3 b4 b5
      obtain ⟨b0, b1, b2, b3, b4, b5⟩ := six_of RB2.out
      go_wp2_with (first | (simp only [HA.out]) | (simp only [HB.out]))
      go_ret
      exact ⟨rfl, B2.out⟩
    · by_cases h2 : b < 0
      · have HA := Aside0.mk ha
        have HB := Aside0.mk hb
        clear ha hb hOk hcond
        go_enter Try.func10, Try.ntmps10
        go_wp2_with fail
        refine (paternosterlaw04_awake.calls true _ rfl).mono ?_
        rintro e w1 ⟨rfl, hb⟩
        have RB1 := Aside0.mk (show RB w.heap.size R w1 from blk_below (blk_new w _) hb)
        have B1 := Aside0.mk (below_step (below_alloc (Below.refl w.heap.size w) _) hb)
        clear hb
        obtain ⟨b0, b1, b2, b3, b4, b5⟩ := six_of RB1.out
        go_wp2_with fail
        refine (rates_Check.calls _ _ _ _ _ _ _ _ HC.out).mono ?_
        rintro e w2 ⟨rfl, hb⟩
        have RB2 := Aside0.mk (show RB w.heap.size R w2 from blk_below RB1.out hb)
        have B2 := Aside0.mk (below_step B1.out hb)
        clear hb b0 b1 b2 b3 b4 b5
        obtain ⟨b0, b1, b2, b3, b4, b5⟩ := six_of RB2.out
        go_wp2_with (first | (simp only [HA.out]) | (simp only [HB.out]))
        go_ret
        exact ⟨rfl, B2.out⟩
      · obtain ⟨v, u, p, q, ⟨d1, d2⟩, ⟨g1, g2⟩, ⟨z1, z2⟩, z3, z4⟩ := mirror_facts hOk a1 a b ha0 (by omega) (by omega) hb1 (by omega)
        have D1 := Aside0.mk d1
        have D2 := Aside0.mk d2
        have G1 := Aside0.mk g1
        have G2 := Aside0.mk g2
        have Z1 := Aside0.mk z1
        have Z2 := Aside0.mk z2
        have Z3 := Aside0.mk z3
        have Z4 := Aside0.mk z4
        have HA := Aside0.mk ha
        have HB := Aside0.mk hb
        clear d1 d2 g1 g2 z1 z2 z3 z4 ha hb hOk hcond
        go_enter Try.func10, Try.ntmps10
        go_wp2_with fail
        refine (paternosterlaw04_awake.calls true _ rfl).mono ?_
        rintro e w1 ⟨rfl, hb⟩
        have RB1 := Aside0.mk (show RB w.heap.size R w1 from blk_below (blk_new w _) hb)
        have B1 := Aside0.mk (below_step (below_alloc (Below.refl w.heap.size w) _) hb)
        clear hb
        obtain ⟨b0, b1, b2, b3, b4, b5⟩ := six_of RB1.out
        go_wp2_with fail
        refine (rates_Check.calls _ _ _ _ _ _ _ _ HC.out).mono ?_
        rintro e w2 ⟨rfl, hb⟩
        have RB2 := Aside0.mk (show RB w.heap.size R w2 from blk_below RB1.out hb)
        have B2 := Aside0.mk (below_step B1.out hb)
        clear hb b0 b1 b2 b3 b4 b5
        obtain ⟨b0, b1, b2, b3, b4, b5⟩ := six_of RB2.out
        go_wp2_with (first | (simp only [HA.out]) | (simp only [HB.out]))
        refine (new_RG RB2.out B2.out (blk_lt RB2.out) HC.out).mono ?_
        rintro e w3 ⟨g, rfl, hR3, hg3, hb3, hrg⟩
        have HF := Aside0.mk (RG.drew (hrg (pV R) (qV R)))
        clear hR3 hg3 hb3 hrg b0 b1 b2 b3 b4 b5
        obtain ⟨b0, b1, b2, b3, b4, b5⟩ := HF.out.six
        go_wp2_with fail
        go_region_held3 (fun w' => (w'.cell? ⟨w.heap.size, 0, none⟩ = some (.int .i64 R.f0) ∧ w'.cell? ⟨w.heap.size, 1, none⟩ = some (.int .i64 R.f1) ∧ w'.cell? ⟨w.heap.size, 2, none⟩ = some (.int .i64 R.f2) ∧ w'.cell? ⟨w.heap.size, 3, none⟩ = some (.int .i64 R.f3) ∧ w'.cell? ⟨w.heap.size, 4, none⟩ = some (.int .i64 R.f4) ∧ w'.cell? ⟨w.heap.size, 5, none⟩ = some (.int .i64 R.f5)) ∧ Aside0 (RG w w.heap.size g R (pV R) (qV R) w'))
          (first | exact ⟨HF.out.six, HF⟩ | exact ⟨F.six, Aside0.mk F⟩ | go_keep)
          (first
            | (go_at_call 29; go_split_ands; (with_reducible refine (draw_RG (Aside0.out (by assumption)) D1.out).mono ?_); rintro e w4 ⟨rfl, F⟩)
            | (go_at_call 29; go_split_ands; (with_reducible refine (draw_RG (Aside0.out (by assumption)) D2.out).mono ?_); rintro e w4 ⟨rfl, F⟩)
            | (go_at_call 32; go_split_ands; (with_reducible refine (gives_RG (Aside0.out (by assumption)) G1.out).mono ?_); rintro e w4 ⟨rfl, F⟩)
            | (go_at_call 32; go_split_ands; (with_reducible refine (gives_RG (Aside0.out (by assumption)) G2.out).mono ?_); rintro e w4 ⟨rfl, F⟩)
            | (go_at_call 35; go_split_ands; (with_reducible refine (peak_RG (Aside0.out (by assumption)) HP.out Z1.out).mono ?_); rintro e w4 ⟨rfl, F⟩)
            | (go_at_call 35; go_split_ands; (with_reducible refine (peak_RG (Aside0.out (by assumption)) HP.out Z2.out).mono ?_); rintro e w4 ⟨rfl, F⟩)
            | (go_at_call 35; go_split_ands; (with_reducible refine (peak_RG (Aside0.out (by assumption)) HP.out Z3.out).mono ?_); rintro e w4 ⟨rfl, F⟩)
            | (go_at_call 35; go_split_ands; (with_reducible refine (peak_RG (Aside0.out (by assumption)) HP.out Z4.out).mono ?_); rintro e w4 ⟨rfl, F⟩))
        go_wp2_with fail
        go_ret
        exact ⟨rfl, F.2.2.1⟩
  · have HC := Aside0.mk (show rates_Check.f R.f0 R.f1 R.f2 R.f3 R.f4 R.f5 = some false by rw [check_f, decide_eq_false hOk])
    clear hOk
    go_enter Try.func10, Try.ntmps10
    go_wp2_with fail
    refine (paternosterlaw04_awake.calls true _ rfl).mono ?_
    rintro e w1 ⟨rfl, hb⟩
    have RB1 := Aside0.mk (show RB w.heap.size R w1 from blk_below (blk_new w _) hb)
    have B1 := Aside0.mk (below_step (below_alloc (Below.refl w.heap.size w) _) hb)
    clear hb
    obtain ⟨b0, b1, b2, b3, b4, b5⟩ := six_of RB1.out
    go_wp2_with fail
    refine (rates_Check.calls _ _ _ _ _ _ _ _ HC.out).mono ?_
    rintro e w2 ⟨rfl, hb⟩
    have B2 := Aside0.mk (below_step B1.out hb)
    clear hb
    go_wp2_with fail
    go_ret
    exact ⟨rfl, B2.out⟩
end Go.Proofs.Ytomaojmccchibaa.X
