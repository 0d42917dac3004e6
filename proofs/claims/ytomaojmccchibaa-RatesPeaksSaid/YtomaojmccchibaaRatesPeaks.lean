/- RatesPeaks, walked: what a table tells, in whatever order it is asked, is the document's, and it is laid once. -/
import Derived.Test.YtomaojmccchibaaRatesInts
import Derived.Test.YtomaojmccchibaaRatesRef2
namespace Go.Proofs.Ytomaojmccchibaa.X
open Go.RowKit Go.Proofs.YtomaojmccchibaaW.PrintWords Go.Proofs.YtomaojmccchibaaW.PrintLast Go.Proofs.YtomaojmccchibaaW.PrintMore
attribute [local go_sem] max2_mx min2_mn max_two min_two
set_option linter.unusedVariables false
set_option linter.unusedSimpArgs false

def paternosterlaw04_RatesPeaks.f (a0_0 a0_1 a0_2 a0_3 a0_4 a0_5 : Int) (l1 l2 : List Int) : Option Bool := some true
set_option maxRecDepth 100000 in
set_option maxHeartbeats 8000000 in
theorem paternosterlaw04_RatesPeaks.calls (a0_0 a0_1 a0_2 a0_3 a0_4 a0_5 : Int) (A1 : Option Addr) (c1 : Nat) (l1 : List Int) (A2 : Option Addr) (c2 : Nat) (l2 : List Int) (r : Bool) (w : World) (hr1 : Kd.C (Kd.int .i64) w A1 l1.length l1) (hc1 : l1.length ≤ c1) (hr2 : Kd.C (Kd.int .i64) w A2 l2.length l2) (hc2 : l2.length ≤ c2) (h : paternosterlaw04_RatesPeaks.f a0_0 a0_1 a0_2 a0_3 a0_4 a0_5 l1 l2 = some r) :
    Calls Try.prog 12 #[.agg #[.int .i64 a0_0, .int .i64 a0_1, .int .i64 a0_2, .int .i64 a0_3, .int .i64 a0_4, .int .i64 a0_5], .slice A1 l1.length c1, .slice A2 l2.length c2] w fun e w' => e = .returned (.bool r) ∧ Below w.heap.size w w' := by
  obtain rfl := Option.some.inj h
  clear h
  obtain ⟨R, hR⟩ : ∃ R : S36, R = ⟨a0_0, a0_1, a0_2, a0_3, a0_4, a0_5⟩ := ⟨_, rfl⟩
  obtain ⟨rfl, rfl, rfl, rfl, rfl, rfl⟩ : a0_0 = R.f0 ∧ a0_1 = R.f1 ∧ a0_2 = R.f2 ∧ a0_3 = R.f3 ∧ a0_4 = R.f4 ∧ a0_5 = R.f5 := by subst hR; exact ⟨rfl, rfl, rfl, rfl, rfl, rfl⟩
  clear hR
  have i1 := ints_of hr1
  have i2 := ints_of hr2
  have hm1 : l1.length ≤ 9223372036854775807 := hr1.2.1
  have hm2 : l2.length ≤ 9223372036854775807 := hr2.2.1
  clear hr1 hr2 hc1 hc2
  by_cases q1 : (l1.length : Int) > 60
  · clear i1 i2
    go_enter Try.func12, Try.ntmps12
    go_wp2_with fail
    refine (paternosterlaw04_awake.calls true _ rfl).mono ?_
    rintro e w1 ⟨rfl, hb⟩
    have RB1 := Aside0.mk (show RB w.heap.size R w1 from blk_below (blk_new w _) hb)
    have B1 := Aside0.mk (below_step (below_alloc (Below.refl w.heap.size w) _) hb)
    clear hb
    obtain ⟨b0, b1', b2', b3, b4, b5⟩ := six_of RB1.out
    go_wp2_with fail
    go_ret
    exact ⟨rfl, B1.out⟩
  · by_cases q2 : (l2.length : Int) < (l1.length : Int)
    · clear i1 i2
      have q2d : decide (l2.length < l1.length) = true := decide_eq_true (by omega)
      go_enter Try.func12, Try.ntmps12
      go_wp2_with fail
      refine (paternosterlaw04_awake.calls true _ rfl).mono ?_
      rintro e w1 ⟨rfl, hb⟩
      have RB1 := Aside0.mk (show RB w.heap.size R w1 from blk_below (blk_new w _) hb)
      have B1 := Aside0.mk (below_step (below_alloc (Below.refl w.heap.size w) _) hb)
      clear hb
      obtain ⟨b0, b1', b2', b3, b4, b5⟩ := six_of RB1.out
      go_wp2_with fail
      go_ret
      exact ⟨rfl, B1.out⟩
    · have q2d : decide (l2.length < l1.length) = false := decide_eq_false (by omega)
      by_cases hOk : Ok R
      · have HC := Aside0.mk (show rates_Check.f R.f0 R.f1 R.f2 R.f3 R.f4 R.f5 = some true by rw [check_f, decide_eq_true hOk])
        have HP := Aside0.mk (peaks_of hOk)
        have HO := Aside0.mk hOk
        obtain ⟨m, hm⟩ : ∃ m, mK (pV R) (qV R) 65 = m := ⟨_, rfl⟩
        have MM := Aside0.mk hm
        have HM := Aside0.mk ((rmost_f hOk 101 (by omega)).trans (congrArg some hm))
        clear hm
        have hX : l1 = [] ∨ ∃ b1 o1 b2 o2, A1 = some ⟨b1, o1, none⟩ ∧ A2 = some ⟨b2, o2, none⟩ ∧ b1 < w.heap.size ∧ b2 < w.heap.size ∧ (∀ j, j < l1.length → w.cell? ⟨b1, o1 + j, none⟩ = some (.int .i64 (l1[j]?.getD 0))) ∧ ∀ j, j < l2.length → w.cell? ⟨b2, o2 + j, none⟩ = some (.int .i64 (l2[j]?.getD 0)) := by
          rcases i1 with e1 | ⟨b1, o1, e1, h1, k1⟩
          · exact .inl e1
          · rcases i2 with e2 | ⟨b2, o2, e2, h2, k2⟩
            · left; subst e2; exact List.length_eq_zero_iff.1 (by rw [List.length_nil] at q2; omega)
            · exact .inr ⟨b1, o1, b2, o2, e1, e2, h1, h2, k1, k2⟩
        clear i1 i2 hOk
        rcases hX with rfl | ⟨b1, o1, b2, o2, rfl, rfl, hb1, hb2, k1, k2⟩
        · clear hm1 q1 q2 q2d
          have q2d : decide (l2.length < 0) = false := rfl
          go_enter Try.func12, Try.ntmps12
          go_wp2_with fail
          refine (paternosterlaw04_awake.calls true _ rfl).mono ?_
          rintro e w1 ⟨rfl, hb⟩
          have RB1 := Aside0.mk (show RB w.heap.size R w1 from blk_below (blk_new w _) hb)
          have B1 := Aside0.mk (below_step (below_alloc (Below.refl w.heap.size w) _) hb)
          clear hb
          obtain ⟨b0, b1', b2', b3, b4, b5⟩ := six_of RB1.out
          go_wp2_with fail
          refine (rates_Check.calls _ _ _ _ _ _ _ _ HC.out).mono ?_
          rintro e w2 ⟨rfl, hb⟩
          have RB2 := Aside0.mk (show RB w.heap.size R w2 from blk_below RB1.out hb)
          have B2 := Aside0.mk (below_step B1.out hb)
          clear hb b0 b1' b2' b3 b4 b5
          obtain ⟨b0, b1', b2', b3, b4, b5⟩ := six_of RB2.out
          go_wp2_with fail
          refine (new_RG RB2.out B2.out (blk_lt RB2.out) HC.out).mono ?_
          rintro e w3 ⟨g, rfl, hR3, hg3, hb3, hrg⟩
          have HF := Aside0.mk (hrg (pV R) (qV R))
          have HR3 := Aside0.mk hR3
          clear hR3 hg3 hb3 hrg b0 b1' b2' b3 b4 b5
          obtain ⟨b0, b1', b2', b3, b4, b5⟩ := HF.out.six
          go_wp2_with fail
          refine (laid_raw g R _ HR3.out).mono ?_
          rintro e w4 ⟨rfl, rfl⟩
          go_wp2_with fail
          go_wp2_with fail
          go_loopw [9] (fun i wr => i = .int .i64 0 ∧ RG w w.heap.size g R (pV R) (qV R) wr) (fun i _ => 0 - (intOf i).toNat)
          case atStart => exact ⟨rfl, HF.out⟩
          case round =>
            obtain ⟨rfl, hF⟩ := hrel
            have HFr := Aside0.mk (RG.drew hF)
            clear hF b0 b1' b2' b3 b4 b5 HF
            obtain ⟨s0, s1, s2, s3, s4, s5⟩ := HFr.out.six
            go_wp2_with fail
            go_region_held3 (fun w' => (w'.cell? ⟨w.heap.size, 0, none⟩ = some (.int .i64 R.f0) ∧ w'.cell? ⟨w.heap.size, 1, none⟩ = some (.int .i64 R.f1) ∧ w'.cell? ⟨w.heap.size, 2, none⟩ = some (.int .i64 R.f2) ∧ w'.cell? ⟨w.heap.size, 3, none⟩ = some (.int .i64 R.f3) ∧ w'.cell? ⟨w.heap.size, 4, none⟩ = some (.int .i64 R.f4) ∧ w'.cell? ⟨w.heap.size, 5, none⟩ = some (.int .i64 R.f5)) ∧ Aside0 (RG w w.heap.size g R (pV R) (qV R) w'))
              (first | exact ⟨HFr.out.six, HFr⟩ | exact ⟨F.1.six, Aside0.mk F.1⟩ | go_keep)
              (first
                | (go_at_call 36; (with_reducible refine (most_RGD HFr.out HP.out MM.out).mono ?_); rintro e w4 ⟨rfl, F⟩)
                | (go_at_call 31; refine (paternosterlaw04_of.calls _ _ _ _ _ _ _ _ _ _ _ _ _ rfl).mono ?_; rintro e w5 ⟨rfl, hb⟩; have n_ := RGD.below F hb; clear F hb; have F := n_; clear n_)
                | (go_at_call 39; refine (paternosterref04_Most.calls 101 _ _ _ _ _ _ _ _ HM.out).mono ?_; rintro e w6 ⟨rfl, hb⟩; have n_ := RGD.below F hb; clear F hb; have F := n_; clear n_)
                | (go_at_call 37; refine (laid_RGD F).mono ?_; rintro e w7 ⟨rfl, G⟩; clear F; have F := G; clear G))
            go_wp2_with fail
            go_ret
            exact ⟨rfl, F.1.2.2.1⟩
        · have HK := Aside0.mk (And.intro k1 k2)
          clear k1 k2
          go_enter Try.func12, Try.ntmps12
          go_wp2_with fail
          refine (paternosterlaw04_awake.calls true _ rfl).mono ?_
          rintro e w1 ⟨rfl, hb⟩
          have RB1 := Aside0.mk (show RB w.heap.size R w1 from blk_below (blk_new w _) hb)
          have B1 := Aside0.mk (below_step (below_alloc (Below.refl w.heap.size w) _) hb)
          clear hb
          obtain ⟨b0, b1', b2', b3, b4, b5⟩ := six_of RB1.out
          go_wp2_with fail
          refine (rates_Check.calls _ _ _ _ _ _ _ _ HC.out).mono ?_
          rintro e w2 ⟨rfl, hb⟩
          have RB2 := Aside0.mk (show RB w.heap.size R w2 from blk_below RB1.out hb)
          have B2 := Aside0.mk (below_step B1.out hb)
          clear hb b0 b1' b2' b3 b4 b5
          obtain ⟨b0, b1', b2', b3, b4, b5⟩ := six_of RB2.out
          go_wp2_with fail
          refine (new_RG RB2.out B2.out (blk_lt RB2.out) HC.out).mono ?_
          rintro e w3 ⟨g, rfl, hR3, hg3, hb3, hrg⟩
          have HF := Aside0.mk (hrg (pV R) (qV R))
          have HR3 := Aside0.mk hR3
          clear hR3 hg3 hb3 hrg b0 b1' b2' b3 b4 b5
          obtain ⟨b0, b1', b2', b3, b4, b5⟩ := HF.out.six
          go_wp2_with fail
          refine (laid_raw g R _ HR3.out).mono ?_
          rintro e w4 ⟨rfl, rfl⟩
          go_wp2_with fail
          go_loopw [9] (fun i wr => ∃ k : Nat, k ≤ l1.length ∧ i = .int .i64 k ∧ RG w w.heap.size g R (pV R) (qV R) wr) (fun i _ => l1.length - (intOf i).toNat)
          case atStart => exact ⟨0, Nat.zero_le _, rfl, HF.out⟩
          case round =>
            obtain ⟨k, hk, rfl, hF⟩ := hrel
            have HFr := Aside0.mk hF
            clear hF b0 b1' b2' b3 b4 b5 HF
            obtain ⟨s0, s1, s2, s3, s4, s5⟩ := HFr.out.six
            by_cases hlt : k < l1.length
            · obtain ⟨x, hx⟩ : ∃ x, l1[k]?.getD 0 = x := ⟨_, rfl⟩
              obtain ⟨y, hy⟩ : ∃ y, l2[k]?.getD 0 = y := ⟨_, rfl⟩
              have hcx := HK.out.1 k hlt
              have hcy := HK.out.2 k (by omega)
              rw [hx] at hcx
              rw [hy] at hcy
              have CX := Aside0.mk hcx
              have CY := Aside0.mk hcy
              have Z1 := Aside0.mk (peakV_pk HO.out x y)
              have Z2 := Aside0.mk (rpeak_f HO.out x y 11 (by omega))
              have gx := HFr.out.cell (a := ⟨b1, o1 + k, none⟩) hb1 hcx
              have gy := HFr.out.cell (a := ⟨b2, o2 + k, none⟩) hb2 hcy
              have hi0 : (0 : Int) ≤ (k : Int) := Int.natCast_nonneg _
              have hi1 : (k : Int) < (l1.length : Int) := by omega
              have hi2 : (k : Int) < (l2.length : Int) := by omega
              have HFd := Aside0.mk (RG.drew HFr.out)
              clear hx hy hcx hcy
              go_wp2_with fail
              go_region_held3 (fun w' => (w'.cell? ⟨w.heap.size, 0, none⟩ = some (.int .i64 R.f0) ∧ w'.cell? ⟨w.heap.size, 1, none⟩ = some (.int .i64 R.f1) ∧ w'.cell? ⟨w.heap.size, 2, none⟩ = some (.int .i64 R.f2) ∧ w'.cell? ⟨w.heap.size, 3, none⟩ = some (.int .i64 R.f3) ∧ w'.cell? ⟨w.heap.size, 4, none⟩ = some (.int .i64 R.f4) ∧ w'.cell? ⟨w.heap.size, 5, none⟩ = some (.int .i64 R.f5)) ∧ w'.cell? ⟨b1, o1 + k, none⟩ = some (.int .i64 x) ∧ w'.cell? ⟨b2, o2 + k, none⟩ = some (.int .i64 y) ∧ Aside0 (RG w w.heap.size g R (pV R) (qV R) w'))
                (first | exact ⟨HFd.out.six, gx, gy, HFd⟩ | exact ⟨F.1.six, F.1.cell (a := ⟨b1, o1 + k, none⟩) hb1 CX.out, F.1.cell (a := ⟨b2, o2 + k, none⟩) hb2 CY.out, Aside0.mk F.1⟩ | go_keep)
                (first
                  | (go_at_call 35; (with_reducible refine (peak_RGD HFd.out HP.out Z1.out).mono ?_); rintro e w4 ⟨rfl, F⟩)
                  | (go_at_call 31; refine (paternosterlaw04_of.calls _ _ _ _ _ _ _ _ _ _ _ _ _ rfl).mono ?_; rintro e w5 ⟨rfl, hb⟩; have n_ := RGD.below F hb; clear F hb; have F := n_; clear n_)
                  | (go_at_call 38; refine (paternosterref04_Peak.calls 11 _ _ _ _ _ _ _ _ _ _ Z2.out).mono ?_; rintro e w6 ⟨rfl, hb⟩; have n_ := RGD.below F hb; clear F hb; have F := n_; clear n_)
                  | (go_at_call 37; refine (laid_RGD F).mono ?_; rintro e w7 ⟨rfl, G⟩; clear F; have F := G; clear G))
              have n_ := Aside0.mk F
              clear F HFd HFr s0 s1 s2 s3 s4 s5 gx gy CX CY
              go_wp2_with fail
              go_roundw
              case rel => exact ⟨k + 1, by omega, by go_num, n_.out.1⟩
              case measure => simp [intOf]; omega
            · have hge : ¬ (k : Int) < (l1.length : Int) := by omega
              have hgd : decide (k < l1.length) = false := decide_eq_false hlt
              have n_ := Aside0.mk (RG.drew HFr.out)
              clear HFr s0 s1 s2 s3 s4 s5
              have HFr := n_
              clear n_
              obtain ⟨s0, s1, s2, s3, s4, s5⟩ := HFr.out.six
              go_wp2_with fail
              go_region_held3 (fun w' => (w'.cell? ⟨w.heap.size, 0, none⟩ = some (.int .i64 R.f0) ∧ w'.cell? ⟨w.heap.size, 1, none⟩ = some (.int .i64 R.f1) ∧ w'.cell? ⟨w.heap.size, 2, none⟩ = some (.int .i64 R.f2) ∧ w'.cell? ⟨w.heap.size, 3, none⟩ = some (.int .i64 R.f3) ∧ w'.cell? ⟨w.heap.size, 4, none⟩ = some (.int .i64 R.f4) ∧ w'.cell? ⟨w.heap.size, 5, none⟩ = some (.int .i64 R.f5)) ∧ Aside0 (RG w w.heap.size g R (pV R) (qV R) w'))
                (first | exact ⟨HFr.out.six, HFr⟩ | exact ⟨F.1.six, Aside0.mk F.1⟩ | go_keep)
                (first
                  | (go_at_call 36; (with_reducible refine (most_RGD HFr.out HP.out MM.out).mono ?_); rintro e w4 ⟨rfl, F⟩)
                  | (go_at_call 31; refine (paternosterlaw04_of.calls _ _ _ _ _ _ _ _ _ _ _ _ _ rfl).mono ?_; rintro e w5 ⟨rfl, hb⟩; have n_ := RGD.below F hb; clear F hb; have F := n_; clear n_)
                  | (go_at_call 39; refine (paternosterref04_Most.calls 101 _ _ _ _ _ _ _ _ HM.out).mono ?_; rintro e w6 ⟨rfl, hb⟩; have n_ := RGD.below F hb; clear F hb; have F := n_; clear n_)
                  | (go_at_call 37; refine (laid_RGD F).mono ?_; rintro e w7 ⟨rfl, G⟩; clear F; have F := G; clear G))
              go_wp2_with fail
              go_ret
              exact ⟨rfl, F.1.2.2.1⟩
      · have HC := Aside0.mk (show rates_Check.f R.f0 R.f1 R.f2 R.f3 R.f4 R.f5 = some false by rw [check_f, decide_eq_false hOk])
        clear hOk i1 i2
        go_enter Try.func12, Try.ntmps12
        go_wp2_with fail
        refine (paternosterlaw04_awake.calls true _ rfl).mono ?_
        rintro e w1 ⟨rfl, hb⟩
        have RB1 := Aside0.mk (show RB w.heap.size R w1 from blk_below (blk_new w _) hb)
        have B1 := Aside0.mk (below_step (below_alloc (Below.refl w.heap.size w) _) hb)
        clear hb
        obtain ⟨b0, b1', b2', b3, b4, b5⟩ := six_of RB1.out
        go_wp2_with fail
        refine (rates_Check.calls _ _ _ _ _ _ _ _ HC.out).mono ?_
        rintro e w2 ⟨rfl, hb⟩
        have B2 := Aside0.mk (below_step B1.out hb)
        clear hb
        go_wp2_with fail
        go_ret
        exact ⟨rfl, B2.out⟩
end Go.Proofs.Ytomaojmccchibaa.X
