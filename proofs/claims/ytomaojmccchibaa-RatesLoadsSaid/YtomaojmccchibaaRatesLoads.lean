/- RatesLoads, walked: a load beyond what may be counts as the nearest one that may; ways count by their signs. -/
import Derived.Test.YtomaojmccchibaaRatesReg
namespace Go.Proofs.Ytomaojmccchibaa.X
open Go.RowKit Go.Proofs.YtomaojmccchibaaW.PrintWords Go.Proofs.YtomaojmccchibaaW.PrintLast Go.Proofs.YtomaojmccchibaaW.PrintMore
attribute [local go_sem] max2_mx min2_mn max_two min_two
set_option linter.unusedVariables false
set_option linter.unusedSimpArgs false

def paternosterlaw04_RatesLoads.f (a0_0 a0_1 a0_2 a0_3 a0_4 a0_5 a1 a2 a3 : Int) : Option Bool := some true
theorem loads_facts {R : S36} (h : Ok R) (what a2 a3 l d : Int) (hcl : cl a2 = cl l) (hsd : (a3 > 0 ↔ d > 0) ∧ (a3 < 0 ↔ d < 0)) :
    ∃ v u z, (rates_Draw.f 1 R.f0 R.f1 R.f2 R.f3 R.f4 R.f5 what a2 a3 = some v ∧ rates_Draw.f 1 R.f0 R.f1 R.f2 R.f3 R.f4 R.f5 what l d = some v) ∧ (rates_Gives.f R.f0 R.f1 R.f2 R.f3 R.f4 R.f5 what a2 a3 = some u ∧ rates_Gives.f R.f0 R.f1 R.f2 R.f3 R.f4 R.f5 what l d = some u) ∧ peakV R (pV R) (qV R) a2 a3 = z ∧ peakV R (pV R) (qV R) l d = z :=
  ⟨dv R what a2 a3, gv R what a2 a3, pk R a2 a3, ⟨draw_f h _ _ _ 1 (by omega), (draw_f h _ _ _ 1 (by omega)).trans (by rw [dv_of what hcl hsd])⟩, ⟨gives_f h _ _ _, (gives_f h _ _ _).trans (by rw [gv_of what hcl hsd])⟩, peakV_pk h _ _, by rw [peakV_pk h, pk_of hcl hsd]⟩
set_option maxRecDepth 100000 in
set_option maxHeartbeats 4000000 in
theorem paternosterlaw04_RatesLoads.calls (a0_0 a0_1 a0_2 a0_3 a0_4 a0_5 a1 a2 a3 : Int) (r : Bool) (w : World) (h : paternosterlaw04_RatesLoads.f a0_0 a0_1 a0_2 a0_3 a0_4 a0_5 a1 a2 a3 = some r) :
    Calls Try.prog 8 #[.agg #[.int .i64 a0_0, .int .i64 a0_1, .int .i64 a0_2, .int .i64 a0_3, .int .i64 a0_4, .int .i64 a0_5], .int .i64 a1, .int .i64 a2, .int .i64 a3] w fun e w' => e = .returned (.bool r) ∧ Below w.heap.size w w' := by
  obtain rfl := Option.some.inj h
  clear h
  obtain ⟨R, hR⟩ : ∃ R : S36, R = ⟨a0_0, a0_1, a0_2, a0_3, a0_4, a0_5⟩ := ⟨_, rfl⟩
  obtain ⟨rfl, rfl, rfl, rfl, rfl, rfl⟩ : a0_0 = R.f0 ∧ a0_1 = R.f1 ∧ a0_2 = R.f2 ∧ a0_3 = R.f3 ∧ a0_4 = R.f4 ∧ a0_5 = R.f5 := by subst hR; exact ⟨rfl, rfl, rfl, rfl, rfl, rfl⟩
  clear hR
  by_cases hOk : Ok R
  · have HC := Aside0.mk (show rates_Check.f R.f0 R.f1 R.f2 R.f3 R.f4 R.f5 = some true by rw [check_f, decide_eq_true hOk])
    have HP := Aside0.mk (peaks_of hOk)
    -- what is asked, and what it counts as
    obtain ⟨l, hl⟩ : ∃ l, mn (mx a2 0) 64 = l := ⟨_, rfl⟩
    have hcl : cl a2 = cl l := by rw [← hl, ← cl_cl]; rfl
    have HL := Aside0.mk hl
    obtain ⟨d, hd, hsd⟩ : ∃ d : Int, (a3 > 0 ∧ d = 1 ∨ a3 < 0 ∧ d = -1 ∨ a3 = 0 ∧ d = 0) ∧ (a3 > 0 ↔ d > 0) ∧ (a3 < 0 ↔ d < 0) := by
      rcases (show a3 > 0 ∨ a3 < 0 ∨ a3 = 0 by omega) with h | h | h
      · exact ⟨1, by omega, by omega, by omega⟩
      · exact ⟨-1, by omega, by omega, by omega⟩
      · exact ⟨0, by omega, by omega, by omega⟩
    obtain ⟨v, u, z, ⟨d1, d2⟩, ⟨g1, g2⟩, z1, z2⟩ := loads_facts hOk a1 a2 a3 l d hcl hsd
    have D1 := Aside0.mk d1
    have D2 := Aside0.mk d2
    have G1 := Aside0.mk g1
    have G2 := Aside0.mk g2
    have Z1 := Aside0.mk z1
    have Z2 := Aside0.mk z2
    clear d1 d2 g1 g2 z1 z2 hsd hcl hl hOk
    have hx : (a3 > 0 ∧ d = 1) ∨ (¬ a3 > 0 ∧ a3 < 0 ∧ d = -1) ∨ (a3 = 0 ∧ d = 0) := by omega
    clear hd
    rcases hx with ⟨hd, rfl⟩ | ⟨hd, hd2, rfl⟩ | ⟨rfl, rfl⟩
    all_goals
      go_enter Try.func8, Try.ntmps8
      go_wp2_with fail
      refine (paternosterlaw04_awake.calls true _ rfl).mono ?_
      rintro e w1 ⟨rfl, hb⟩
      have RB1 := Aside0.mk (show RB w.heap.size R w1 from blk_below (blk_new w _) hb)
      have B1 := Aside0.mk (below_step (below_alloc (Below.refl w.heap.size w) _) hb)
      clear hb
      obtain ⟨b0, b1, b2, b3, b4, b5⟩ := six_of RB1.out
      go_wp2_with fail
      refine (rates_Check.calls _ _ _ _ _ _ _ _ HC.out).mono ?_
      rintro e w2 ⟨rfl, hb⟩
      have RB2 := Aside0.mk (show RB w.heap.size R w2 from blk_below RB1.out hb)
      have B2 := Aside0.mk (below_step B1.out hb)
      clear hb b0 b1 b2 b3 b4 b5
      obtain ⟨b0, b1, b2, b3, b4, b5⟩ := six_of RB2.out
      go_wp2_with fail
      refine (new_RG RB2.out B2.out (blk_lt RB2.out) HC.out).mono ?_
      rintro e w3 ⟨g, rfl, hR3, hg3, hb3, hrg⟩
      have F0 := Aside0.mk (RG.drew (hrg (pV R) (qV R)))
      clear hR3 hg3 hb3 hrg b0 b1 b2 b3 b4 b5
      obtain ⟨b0, b1, b2, b3, b4, b5⟩ := F0.out.six
      go_wp2_with (simp only [HL.out])
      all_goals
        go_region_held3 (fun w' => (w'.cell? ⟨w.heap.size, 0, none⟩ = some (.int .i64 R.f0) ∧ w'.cell? ⟨w.heap.size, 1, none⟩ = some (.int .i64 R.f1) ∧ w'.cell? ⟨w.heap.size, 2, none⟩ = some (.int .i64 R.f2) ∧ w'.cell? ⟨w.heap.size, 3, none⟩ = some (.int .i64 R.f3) ∧ w'.cell? ⟨w.heap.size, 4, none⟩ = some (.int .i64 R.f4) ∧ w'.cell? ⟨w.heap.size, 5, none⟩ = some (.int .i64 R.f5)) ∧ Aside0 (RG w w.heap.size g R (pV R) (qV R) w'))
          (first | exact ⟨F0.out.six, F0⟩ | exact ⟨F.six, Aside0.mk F⟩ | go_keep)
          (first
            | (go_at_call 29; go_split_ands; (with_reducible refine (draw_RG (Aside0.out (by assumption)) D1.out).mono ?_); rintro e w4 ⟨rfl, F⟩)
            | (go_at_call 29; go_split_ands; (with_reducible refine (draw_RG (Aside0.out (by assumption)) D2.out).mono ?_); rintro e w4 ⟨rfl, F⟩)
            | (go_at_call 32; go_split_ands; (with_reducible refine (gives_RG (Aside0.out (by assumption)) G1.out).mono ?_); rintro e w4 ⟨rfl, F⟩)
            | (go_at_call 32; go_split_ands; (with_reducible refine (gives_RG (Aside0.out (by assumption)) G2.out).mono ?_); rintro e w4 ⟨rfl, F⟩)
            | (go_at_call 35; go_split_ands; (with_reducible refine (peak_RG (Aside0.out (by assumption)) HP.out Z1.out).mono ?_); rintro e w4 ⟨rfl, F⟩)
            | (go_at_call 35; go_split_ands; (with_reducible refine (peak_RG (Aside0.out (by assumption)) HP.out Z2.out).mono ?_); rintro e w4 ⟨rfl, F⟩))
        go_wp2_with fail
        go_ret
        exact ⟨rfl, F.2.2.1⟩
  · have HC := Aside0.mk (show rates_Check.f R.f0 R.f1 R.f2 R.f3 R.f4 R.f5 = some false by rw [check_f, decide_eq_false hOk])
    clear hOk
    go_enter Try.func8, Try.ntmps8
    go_wp2_with fail
    refine (paternosterlaw04_awake.calls true _ rfl).mono ?_
    rintro e w1 ⟨rfl, hb⟩
    have RB1 := Aside0.mk (show RB w.heap.size R w1 from blk_below (blk_new w _) hb)
    have B1 := Aside0.mk (below_step (below_alloc (Below.refl w.heap.size w) _) hb)
    clear hb
    obtain ⟨b0, b1, b2, b3, b4, b5⟩ := six_of RB1.out
    go_wp2_with fail
    refine (rates_Check.calls _ _ _ _ _ _ _ _ HC.out).mono ?_
    rintro e w2 ⟨rfl, hb⟩
    have B2 := Aside0.mk (below_step B1.out hb)
    clear hb
    go_wp2_with fail
    go_ret
    exact ⟨rfl, B2.out⟩
end Go.Proofs.Ytomaojmccchibaa.X
