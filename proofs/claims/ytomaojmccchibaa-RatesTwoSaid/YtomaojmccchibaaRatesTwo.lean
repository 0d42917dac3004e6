/- RatesTwo, walked: two tables of the same rates tell the same, in whatever order they are asked; asking one lays nothing of the other. -/
import Derived.Test.YtomaojmccchibaaRatesInts
import Derived.Test.YtomaojmccchibaaRatesBounds
namespace Go.Proofs.Ytomaojmccchibaa.X
open Go.RowKit Go.Proofs.YtomaojmccchibaaW.PrintWords Go.Proofs.YtomaojmccchibaaW.PrintLast Go.Proofs.YtomaojmccchibaaW.PrintMore
attribute [local go_sem] max2_mx min2_mn max_two min_two
set_option linter.unusedVariables false
set_option linter.unusedSimpArgs false

/-- Two tables of the same rates, the first one laid. -/
def T2 (w : World) (a b : Nat) (r : S36) (p q : Nat → Int) (W : World) : Prop := Done a r p q W ∧ Tbl b r p q W ∧ Below w.heap.size w W ∧ a ≠ b ∧ w.heap.size ≤ a ∧ w.heap.size ≤ b
def T2D (w : World) (a b : Nat) (r : S36) (p q : Nat → Int) (W : World) : Prop := T2 w a b r p q W ∧ Done b r p q W
section
variable {w W W' : World} {a b : Nat} {r : S36} {p q : Nat → Int}
theorem Tbl.below {g : Nat} (h : Tbl g r p q W) (hb : Below W.heap.size W W') : Tbl g r p q W' := h.elim (fun t => .inl (TB.below t hb)) (fun t => .inr (TB.below t hb))
theorem Tbl.but {g g' : Nat} (h : Tbl g r p q W) (hK : But g' W W') (hne : g ≠ g') : Tbl g r p q W' := h.elim (fun t => .inl (TB.kept t hK.keep hne)) (fun t => .inr (TB.kept t hK.keep hne))
theorem T2.drew (h : T2 w a b r p q W) : T2 w a b r p q W.drew := ⟨h.1, h.2.1, h.2.2.1.drew, h.2.2.2⟩
theorem T2.cell (h : T2 w a b r p q W) {c : Addr} {v : Value} (ha : c.block < w.heap.size) (hc : w.cell? c = some v) : W.cell? c = some v := (h.2.2.1.cell ha).trans hc
theorem peakA {load dir v : Int} (h : T2 w a b r p q W) (HP : PeaksOf r p q) (hd : peakV r p q load dir = v) :
    Calls Try.prog 35 #[.pointer (some ⟨a, 0, none⟩), .int .i64 load, .int .i64 dir] W fun e W' => e = .returned (.int .i64 v) ∧ T2 w a b r p q W' := by
  subst hd
  exact (peak_any a r p q load dir W (.inr h.1) HP).mono fun e W' ⟨he, hD, hK⟩ => ⟨he, hD, h.2.1.but hK (Ne.symm h.2.2.2.1), But.to hK h.2.2.1 h.2.2.1.size h.2.2.2.2.1, h.2.2.2⟩
theorem peakB {load dir v : Int} (h : T2 w a b r p q W) (HP : PeaksOf r p q) (hd : peakV r p q load dir = v) :
    Calls Try.prog 35 #[.pointer (some ⟨b, 0, none⟩), .int .i64 load, .int .i64 dir] W fun e W' => e = .returned (.int .i64 v) ∧ T2 w a b r p q W' := by
  subst hd
  exact (peak_any b r p q load dir W h.2.1 HP).mono fun e W' ⟨he, hD, hK⟩ => ⟨he, TB.kept h.1 hK.keep h.2.2.2.1, .inr hD, But.to hK h.2.2.1 h.2.2.1.size h.2.2.2.2.2, h.2.2.2⟩
theorem mostB {v : Int} (h : T2 w a b r p q W) (HP : PeaksOf r p q) (hd : mK p q 65 = v) :
    Calls Try.prog 36 #[.pointer (some ⟨b, 0, none⟩)] W fun e W' => e = .returned (.int .i64 v) ∧ T2D w a b r p q W' := by
  subst hd
  exact (most_any b r p q W h.2.1 HP).mono fun e W' ⟨he, hD, hK⟩ => ⟨he, ⟨TB.kept h.1 hK.keep h.2.2.2.1, .inr hD, But.to hK h.2.2.1 h.2.2.1.size h.2.2.2.2.2, h.2.2.2⟩, hD⟩
end
def paternosterlaw04_RatesTwo.f (a0_0 a0_1 a0_2 a0_3 a0_4 a0_5 : Int) (l1 : List Int) (a2 : Int) : Option Bool := some true
set_option maxRecDepth 100000 in
set_option maxHeartbeats 8000000 in
theorem paternosterlaw04_RatesTwo.calls (a0_0 a0_1 a0_2 a0_3 a0_4 a0_5 : Int) (A1 : Option Addr) (c1 : Nat) (l1 : List Int) (a2 : Int) (r : Bool) (w : World) (hr1 : Kd.C (Kd.int .i64) w A1 l1.length l1) (hc1 : l1.length ≤ c1) (h : paternosterlaw04_RatesTwo.f a0_0 a0_1 a0_2 a0_3 a0_4 a0_5 l1 a2 = some r) :
    Calls Try.prog 14 #[.agg #[.int .i64 a0_0, .int .i64 a0_1, .int .i64 a0_2, .int .i64 a0_3, .int .i64 a0_4, .int .i64 a0_5], .slice A1 l1.length c1, .int .i64 a2] w fun e w' => e = .returned (.bool r) ∧ Below w.heap.size w w' := by
  obtain rfl := Option.some.inj h
  clear h
  obtain ⟨R, hR⟩ : ∃ R : S36, R = ⟨a0_0, a0_1, a0_2, a0_3, a0_4, a0_5⟩ := ⟨_, rfl⟩
  obtain ⟨rfl, rfl, rfl, rfl, rfl, rfl⟩ : a0_0 = R.f0 ∧ a0_1 = R.f1 ∧ a0_2 = R.f2 ∧ a0_3 = R.f3 ∧ a0_4 = R.f4 ∧ a0_5 = R.f5 := by subst hR; exact ⟨rfl, rfl, rfl, rfl, rfl, rfl⟩
  clear hR
  have i1 := ints_of hr1
  have hm1 : l1.length ≤ 9223372036854775807 := hr1.2.1
  clear hr1 hc1
  by_cases q1 : (l1.length : Int) > 60
  · clear i1
    go_enter Try.func14, Try.ntmps14
    go_wp2_with fail
    refine (paternosterlaw04_awake.calls true _ rfl).mono ?_
    rintro e w1 ⟨rfl, hb⟩
    have RB1 := Aside0.mk (show RB w.heap.size R w1 from blk_below (blk_new w _) hb)
    have B1 := Aside0.mk (below_step (below_alloc (Below.refl w.heap.size w) _) hb)
    clear hb
    obtain ⟨b0, b1', b2', b3, b4, b5⟩ := six_of RB1.out
    go_wp2_with fail
    go_ret
    exact ⟨rfl, B1.out⟩
  · by_cases hOk : Ok R
    · have HC := Aside0.mk (show rates_Check.f R.f0 R.f1 R.f2 R.f3 R.f4 R.f5 = some true by rw [check_f, decide_eq_true hOk])
      have HP := Aside0.mk (peaks_of hOk)
      have HO := Aside0.mk hOk
      obtain ⟨m, hm⟩ : ∃ m, mK (pV R) (qV R) 65 = m := ⟨_, rfl⟩
      have MM := Aside0.mk hm
      clear hOk hm
      rcases i1 with rfl | ⟨b1, o1, rfl, hb1, k1⟩
      · clear hm1 q1
        go_enter Try.func14, Try.ntmps14
        go_wp2_with fail
        refine (paternosterlaw04_awake.calls true _ rfl).mono ?_
        rintro e w1 ⟨rfl, hb⟩
        have RB1 := Aside0.mk (show RB w.heap.size R w1 from blk_below (blk_new w _) hb)
        have B1 := Aside0.mk (below_step (below_alloc (Below.refl w.heap.size w) _) hb)
        clear hb
        obtain ⟨b0, b1', b2', b3, b4, b5⟩ := six_of RB1.out
        go_wp2_with fail
        refine (rates_Check.calls _ _ _ _ _ _ _ _ HC.out).mono ?_
        rintro e w2 ⟨rfl, hb⟩
        have RB2 := Aside0.mk (show RB w.heap.size R w2 from blk_below RB1.out hb)
        have B2 := Aside0.mk (below_step B1.out hb)
        clear hb b0 b1' b2' b3 b4 b5
        obtain ⟨b0, b1', b2', b3, b4, b5⟩ := six_of RB2.out
        go_wp2_with fail
        refine (new_RG RB2.out B2.out (blk_lt RB2.out) HC.out).mono ?_
        rintro e w3 ⟨g, rfl, hR3, hg3, hb3, hrg⟩
        have HF1 := Aside0.mk (hrg (pV R) (qV R))
        have HR1 := Aside0.mk hR3
        clear hR3 hg3 hb3 hrg b0 b1' b2' b3 b4 b5
        obtain ⟨b0, b1', b2', b3, b4, b5⟩ := HF1.out.six
        go_wp2_with fail
        refine (new_RG HF1.out.1 HF1.out.2.2.1 (blk_lt HF1.out.1) HC.out).mono ?_
        rintro e w4 ⟨g2, rfl, hR4, hg4, hb4, hrg⟩
        have HR2 := Aside0.mk hR4
        have HRA := Aside0.mk (show Raw g R w4 from TB.below HR1.out hb4)
        have HNE := Aside0.mk (show g ≠ g2 by have := TB.lt HR1.out; omega)
        have HB4 := Aside0.mk (below_step HF1.out.2.2.1 hb4)
        have HG1 := Aside0.mk HF1.out.2.2.2.2
        have HG2 := Aside0.mk (show w.heap.size ≤ g2 by have := HF1.out.2.2.1.size; omega)
        clear hR4 hg4 hb4 hrg b0 b1' b2' b3 b4 b5
        go_wp2_with fail
        refine (most_any g R _ _ _ (.inl HRA.out) HP.out).mono ?_
        rintro e w5 ⟨rfl, hD, hK⟩
        have HF := Aside0.mk (show T2 w g g2 R (pV R) (qV R) w5 from ⟨hD, .inl (TB.kept HR2.out hK.keep (Ne.symm HNE.out)), But.to hK HB4.out HB4.out.size HG1.out, HNE.out, HG1.out, HG2.out⟩)
        have HR5 := Aside0.mk (show Raw g2 R w5 from TB.kept HR2.out hK.keep (Ne.symm HNE.out))
        clear hD hK
        rw [MM.out]
        go_wp2_with fail
        refine (laid_done g R _ _ _ HF.out.1).mono ?_
        rintro e w6 ⟨rfl, rfl⟩
        go_wp2_with fail
        refine (laid_raw g2 R _ HR5.out).mono ?_
        rintro e w7 ⟨rfl, rfl⟩
        go_wp2_with fail
        go_loopw [11] (fun i wr => i = .int .i64 0 ∧ T2 w g g2 R (pV R) (qV R) wr) (fun i _ => 0 - (intOf i).toNat)
        case atStart => exact ⟨rfl, HF.out⟩
        case round =>
          obtain ⟨rfl, hF⟩ := hrel
          have HFr := Aside0.mk hF
          clear hF HF
          go_wp2_with fail
          refine (mostB HFr.out HP.out MM.out).mono ?_
          rintro e w4 ⟨rfl, F⟩
          have n_ := Aside0.mk F
          clear F
          go_wp2_with fail
          refine (laid_done g R _ _ _ n_.out.1.1).mono ?_
          rintro e w6 ⟨rfl, rfl⟩
          go_wp2_with fail
          refine (laid_done g2 R _ _ _ n_.out.2).mono ?_
          rintro e w7 ⟨rfl, rfl⟩
          go_wp2_with fail
          go_ret
          exact ⟨rfl, n_.out.1.2.2.1⟩
      · have HK := Aside0.mk k1
        clear k1
        go_enter Try.func14, Try.ntmps14
        go_wp2_with fail
        refine (paternosterlaw04_awake.calls true _ rfl).mono ?_
        rintro e w1 ⟨rfl, hb⟩
        have RB1 := Aside0.mk (show RB w.heap.size R w1 from blk_below (blk_new w _) hb)
        have B1 := Aside0.mk (below_step (below_alloc (Below.refl w.heap.size w) _) hb)
        clear hb
        obtain ⟨b0, b1', b2', b3, b4, b5⟩ := six_of RB1.out
        go_wp2_with fail
        refine (rates_Check.calls _ _ _ _ _ _ _ _ HC.out).mono ?_
        rintro e w2 ⟨rfl, hb⟩
        have RB2 := Aside0.mk (show RB w.heap.size R w2 from blk_below RB1.out hb)
        have B2 := Aside0.mk (below_step B1.out hb)
        clear hb b0 b1' b2' b3 b4 b5
        obtain ⟨b0, b1', b2', b3, b4, b5⟩ := six_of RB2.out
        go_wp2_with fail
        refine (new_RG RB2.out B2.out (blk_lt RB2.out) HC.out).mono ?_
        rintro e w3 ⟨g, rfl, hR3, hg3, hb3, hrg⟩
        have HF1 := Aside0.mk (hrg (pV R) (qV R))
        have HR1 := Aside0.mk hR3
        clear hR3 hg3 hb3 hrg b0 b1' b2' b3 b4 b5
        obtain ⟨b0, b1', b2', b3, b4, b5⟩ := HF1.out.six
        go_wp2_with fail
        refine (new_RG HF1.out.1 HF1.out.2.2.1 (blk_lt HF1.out.1) HC.out).mono ?_
        rintro e w4 ⟨g2, rfl, hR4, hg4, hb4, hrg⟩
        have HR2 := Aside0.mk hR4
        have HRA := Aside0.mk (show Raw g R w4 from TB.below HR1.out hb4)
        have HNE := Aside0.mk (show g ≠ g2 by have := TB.lt HR1.out; omega)
        have HB4 := Aside0.mk (below_step HF1.out.2.2.1 hb4)
        have HG1 := Aside0.mk HF1.out.2.2.2.2
        have HG2 := Aside0.mk (show w.heap.size ≤ g2 by have := HF1.out.2.2.1.size; omega)
        clear hR4 hg4 hb4 hrg b0 b1' b2' b3 b4 b5
        go_wp2_with fail
        refine (most_any g R _ _ _ (.inl HRA.out) HP.out).mono ?_
        rintro e w5 ⟨rfl, hD, hK⟩
        have HF := Aside0.mk (show T2 w g g2 R (pV R) (qV R) w5 from ⟨hD, .inl (TB.kept HR2.out hK.keep (Ne.symm HNE.out)), But.to hK HB4.out HB4.out.size HG1.out, HNE.out, HG1.out, HG2.out⟩)
        have HR5 := Aside0.mk (show Raw g2 R w5 from TB.kept HR2.out hK.keep (Ne.symm HNE.out))
        clear hD hK
        rw [MM.out]
        go_wp2_with fail
        refine (laid_done g R _ _ _ HF.out.1).mono ?_
        rintro e w6 ⟨rfl, rfl⟩
        go_wp2_with fail
        refine (laid_raw g2 R _ HR5.out).mono ?_
        rintro e w7 ⟨rfl, rfl⟩
        go_wp2_with fail
        go_loopw [11] (fun i wr => ∃ k : Nat, k ≤ l1.length ∧ i = .int .i64 k ∧ T2 w g g2 R (pV R) (qV R) wr) (fun i _ => l1.length - (intOf i).toNat)
        case atStart => exact ⟨0, Nat.zero_le _, rfl, HF.out⟩
        case round =>
          obtain ⟨k, hk, rfl, hF⟩ := hrel
          have HFr := Aside0.mk hF
          clear hF HF
          by_cases hlt : k < l1.length
          · obtain ⟨x, hx⟩ : ∃ x, l1[k]?.getD 0 = x := ⟨_, rfl⟩
            obtain ⟨y, hy⟩ : ∃ y, l1[l1.length - 1 - k]?.getD 0 = y := ⟨_, rfl⟩
            have hcx := HK.out k hlt
            have hcy := HK.out (l1.length - 1 - k) (by omega)
            rw [hx] at hcx
            rw [hy] at hcy
            have CX := Aside0.mk hcx
            have CY := Aside0.mk hcy
            obtain ⟨z1, hz1⟩ : ∃ z, peakV R (pV R) (qV R) x a2 = z := ⟨_, rfl⟩
            obtain ⟨z2, hz2⟩ : ∃ z, peakV R (pV R) (qV R) y a2 = z := ⟨_, rfl⟩
            have hle : z2 ≤ m := by rw [← hz2, ← MM.out]; exact peakV_most HO.out y a2
            have Z1 := Aside0.mk hz1
            have Z2 := Aside0.mk hz2
            have gx := HFr.out.cell (c := ⟨b1, o1 + k, none⟩) hb1 hcx
            have gy := HFr.out.cell (c := ⟨b1, o1 + (l1.length - 1 - k), none⟩) hb1 hcy
            have hi0 : (0 : Int) ≤ (k : Int) := Int.natCast_nonneg _
            have hi1 : (k : Int) < (l1.length : Int) := by omega
            have HFd := Aside0.mk (T2.drew HFr.out)
            clear hx hy hcx hcy hz1 hz2
            go_wp2_with fail
            have e1 : IntKind.i64.wrap ((l1.length : Int) - 1) = (l1.length : Int) - 1 := by rw [IntKind.wrap_i64]; omega
            have e2 : IntKind.i64.wrap ((l1.length : Int) - 1 - (k : Int)) = (l1.length : Int) - 1 - (k : Int) := by rw [IntKind.wrap_i64]; omega
            have e3 : 0 ≤ (l1.length : Int) - 1 - (k : Int) := by omega
            have e4 : (l1.length : Int) - 1 - (k : Int) < (l1.length : Int) := by omega
            have e5 : ((l1.length : Int) - 1 - (k : Int)).toNat = l1.length - 1 - k := by omega
            have e6 : (k : Int) ≤ (l1.length : Int) - 1 := by omega
            have e7 : (l1.length : Int) - 1 < (l1.length : Int) + (k : Int) := by omega
            have e8 : ¬ (l1.length : Int) - 1 - (k : Int) < 0 := by omega
            have e9 : ¬ (l1.length : Int) - 1 < (k : Int) := by omega
            go_region_held3 (fun w' => w'.cell? ⟨b1, o1 + k, none⟩ = some (.int .i64 x) ∧ w'.cell? ⟨b1, o1 + (l1.length - 1 - k), none⟩ = some (.int .i64 y) ∧ Aside0 (T2 w g g2 R (pV R) (qV R) w'))
              (first | exact ⟨gx, gy, HFd⟩ | exact ⟨F.cell (c := ⟨b1, o1 + k, none⟩) hb1 CX.out, F.cell (c := ⟨b1, o1 + (l1.length - 1 - k), none⟩) hb1 CY.out, Aside0.mk F⟩ | go_keep)
              (first
                | (go_at_call 35; go_split_ands; (with_reducible refine (peakA (Aside0.out (by assumption)) HP.out Z1.out).mono ?_); rintro e w4 ⟨rfl, F⟩)
                | (go_at_call 35; go_split_ands; (with_reducible refine (peakB (Aside0.out (by assumption)) HP.out Z1.out).mono ?_); rintro e w4 ⟨rfl, F⟩)
                | (go_at_call 35; go_split_ands; (with_reducible refine (peakA (Aside0.out (by assumption)) HP.out Z2.out).mono ?_); rintro e w4 ⟨rfl, F⟩))
            clear e1 e2 e3 e4 e5 e6 e7 e8 e9
            go_wp2_with fail
            go_roundw
            case rel => exact ⟨k + 1, by omega, by go_num, F⟩
            case measure => simp [intOf]; omega
          · have hge : ¬ (k : Int) < (l1.length : Int) := by omega
            have hgd : decide (k < l1.length) = false := decide_eq_false hlt
            go_wp2_with fail
            refine (mostB HFr.out HP.out MM.out).mono ?_
            rintro e w4 ⟨rfl, F⟩
            have n_ := Aside0.mk F
            clear F
            go_wp2_with fail
            refine (laid_done g R _ _ _ n_.out.1.1).mono ?_
            rintro e w6 ⟨rfl, rfl⟩
            go_wp2_with fail
            refine (laid_done g2 R _ _ _ n_.out.2).mono ?_
            rintro e w7 ⟨rfl, rfl⟩
            go_wp2_with fail
            go_ret
            exact ⟨rfl, n_.out.1.2.2.1⟩
    · have HC := Aside0.mk (show rates_Check.f R.f0 R.f1 R.f2 R.f3 R.f4 R.f5 = some false by rw [check_f, decide_eq_false hOk])
      clear hOk i1
      go_enter Try.func14, Try.ntmps14
      go_wp2_with fail
      refine (paternosterlaw04_awake.calls true _ rfl).mono ?_
      rintro e w1 ⟨rfl, hb⟩
      have RB1 := Aside0.mk (show RB w.heap.size R w1 from blk_below (blk_new w _) hb)
      have B1 := Aside0.mk (below_step (below_alloc (Below.refl w.heap.size w) _) hb)
      clear hb
      obtain ⟨b0, b1', b2', b3, b4, b5⟩ := six_of RB1.out
      go_wp2_with fail
      refine (rates_Check.calls _ _ _ _ _ _ _ _ HC.out).mono ?_
      rintro e w2 ⟨rfl, hb⟩
      have B2 := Aside0.mk (below_step B1.out hb)
      clear hb
      go_wp2_with fail
      go_ret
      exact ⟨rfl, B2.out⟩
end Go.Proofs.Ytomaojmccchibaa.X
