/- Texts of this seat in one: RatesAwake, RatesReg. -/
import Derived.Test.YtomaojmccchibaaRatesPlain
import Derived.Deep.RegionHeld3
/- The example of layer 4 answers true. -/
namespace Go.Proofs.Ytomaojmccchibaa.X
open Go.RowKit Go.Proofs.YtomaojmccchibaaW.PrintWords Go.Proofs.YtomaojmccchibaaW.PrintLast Go.Proofs.YtomaojmccchibaaW.PrintMore
attribute [local go_sem] max2_int min2_int max_two min_two max_three min_three max_four min_four
set_option linter.unusedVariables false
set_option linter.unusedSimpArgs false

def r0 : S36 := ⟨1, 2, 0, 3, 0, 4⟩
def paternosterlaw04_awake.f  : Option (Bool) := some true
/-- Six cells of rates that were boxed. -/
theorem six_of {r : S36} {w : World} {b : Nat} (h : w.heap[b]? = some (.cells #[.int .i64 r.f0, .int .i64 r.f1, .int .i64 r.f2, .int .i64 r.f3, .int .i64 r.f4, .int .i64 r.f5] 36 (0, 0))) : Six b r w :=
  ⟨(blk_cell h 0).trans rfl, (blk_cell h 1).trans rfl, (blk_cell h 2).trans rfl, (blk_cell h 3).trans rfl, (blk_cell h 4).trans rfl, (blk_cell h 5).trans rfl⟩
/-- The block of boxed rates. -/
def RB (b : Nat) (r : S36) (w : World) : Prop := w.heap[b]? = some (.cells #[.int .i64 r.f0, .int .i64 r.f1, .int .i64 r.f2, .int .i64 r.f3, .int .i64 r.f4, .int .i64 r.f5] 36 (0, 0))
set_option maxRecDepth 100000 in
set_option maxHeartbeats 4000000 in
theorem paternosterlaw04_awake.calls  (r : Bool) (w : World) (h : paternosterlaw04_awake.f  = some r) :
    Calls Try.prog 27 #[] w fun e w' => e = .returned (.bool r) ∧ Below w.heap.size w w' := by
  obtain rfl := Option.some.inj h
  clear h
  have hOk : Ok r0 := by decide
  have HC := Aside0.mk (show rates_Check.f r0.f0 r0.f1 r0.f2 r0.f3 r0.f4 r0.f5 = some true by rw [check_f, decide_eq_true hOk])
  have HP := Aside0.mk (peaks_of hOk)
  have HV := Aside0.mk (show peakV r0 (pV r0) (qV r0) 6 1 = 9 by rw [peakV_pk hOk]; decide)
  have HD1 := Aside0.mk (show rates_Draw.f 1 r0.f0 r0.f1 r0.f2 r0.f3 r0.f4 r0.f5 2 6 1 = some 9 from (draw_f hOk 2 6 1 1 (by omega)).trans (by decide))
  have HD2 := Aside0.mk (show rates_Draw.f 1 r0.f0 r0.f1 r0.f2 r0.f3 r0.f4 r0.f5 2 6 (-1) = some 3 from (draw_f hOk 2 6 (-1) 1 (by omega)).trans (by decide))
  have HG := Aside0.mk (show rates_Gives.f r0.f0 r0.f1 r0.f2 r0.f3 r0.f4 r0.f5 2 6 (-1) = some 6 from (gives_f hOk 2 6 (-1)).trans (by decide))
  clear hOk
  go_enter Try.func27, Try.ntmps27
  go_wp2_with fail
  refine (new_yes r0 _ HC.out).mono ?_
  rintro e w1 ⟨g, rfl, hg, hR, hb⟩
  have HR := Aside0.mk hR
  have RB1 := Aside0.mk (show RB w.heap.size r0 w1 from blk_below (blk_new w _) hb)
  have B1 := Aside0.mk (below_step (below_alloc (Below.refl w.heap.size w) _) hb)
  have hgw : w.heap.size < g := by simp at hg; omega
  have HGW := Aside0.mk hgw
  clear hg hR hb hgw
  go_wp2_with fail
  refine (laid_raw g r0 _ HR.out).mono ?_
  rintro e w' ⟨rfl, rfl⟩
  go_wp2_with fail
  refine (peak_any g r0 _ _ 6 1 _ (.inl HR.out) HP.out).mono ?_
  rintro e w2 ⟨rfl, hD, hK⟩
  have HDN := Aside0.mk hD
  have RB2 := Aside0.mk (show RB w.heap.size r0 w2 from But.blk hK RB1.out (by have := HGW.out; omega))
  have B2 := Aside0.mk (But.to hK B1.out B1.out.size (by have := HGW.out; omega))
  clear hD hK
  rw [HV.out]
  go_wp2_with fail
  refine (laid_done g r0 _ _ _ HDN.out).mono ?_
  rintro e w' ⟨rfl, rfl⟩
  obtain ⟨b0, b1, b2, b3, b4, b5⟩ := six_of RB2.out
  go_wp2_with fail
  refine (rates_Draw.calls 1 _ _ _ _ _ _ _ _ _ _ _ HD1.out).mono ?_
  rintro e w3 ⟨rfl, hb⟩
  have RB3 := Aside0.mk (show RB w.heap.size r0 w3 from blk_below RB2.out hb)
  have B3 := Aside0.mk (below_step B2.out hb)
  clear hb b0 b1 b2 b3 b4 b5
  obtain ⟨b0, b1, b2, b3, b4, b5⟩ := six_of RB3.out
  go_wp2_with fail
  refine (rates_Draw.calls 1 _ _ _ _ _ _ _ _ _ _ _ HD2.out).mono ?_
  rintro e w4 ⟨rfl, hb⟩
  have RB4 := Aside0.mk (show RB w.heap.size r0 w4 from blk_below RB3.out hb)
  have B4 := Aside0.mk (below_step B3.out hb)
  clear hb b0 b1 b2 b3 b4 b5
  obtain ⟨b0, b1, b2, b3, b4, b5⟩ := six_of RB4.out
  go_wp2_with fail
  refine (rates_Gives.calls _ _ _ _ _ _ _ _ _ _ _ HG.out).mono ?_
  rintro e w5 ⟨rfl, hb⟩
  have B5 := Aside0.mk (below_step B4.out hb)
  clear hb b0 b1 b2 b3 b4 b5
  go_wp2_with fail
  go_ret
  exact ⟨rfl, B5.out⟩
end Go.Proofs.Ytomaojmccchibaa.X
/- Calls in a region beside boxed rates and a table: each with what stays so. -/
namespace Go.Proofs.Ytomaojmccchibaa.X
open Go.RowKit Go.Proofs.YtomaojmccchibaaW.PrintWords Go.Proofs.YtomaojmccchibaaW.PrintLast Go.Proofs.YtomaojmccchibaaW.PrintMore
set_option linter.unusedVariables false
set_option linter.unusedSimpArgs false

theorem max2_mx (k k' : IntKind) (x y : Int) : Builtin.max2 (.int k x) (.int k' y) = pure (.int k (mx x y)) := by unfold mx; exact max2_int k k' x y
theorem min2_mn (k k' : IntKind) (x y : Int) : Builtin.min2 (.int k x) (.int k' y) = pure (.int k (mn x y)) := by unfold mn; exact min2_int k k' x y
/-- The boxed rates, a table, and all before as it was. -/
def RG (w : World) (b g : Nat) (r : S36) (p q : Nat → Int) (W : World) : Prop := RB b r W ∧ Tbl g r p q W ∧ Below w.heap.size w W ∧ b ≠ g ∧ w.heap.size ≤ g
section
variable {w W W' : World} {b g : Nat} {r : S36} {p q : Nat → Int}
theorem RG.below (h : RG w b g r p q W) (hb : Below W.heap.size W W') : RG w b g r p q W' :=
  ⟨blk_below h.1 hb, h.2.1.elim (fun t => .inl (TB.below t hb)) (fun t => .inr (TB.below t hb)), below_step h.2.2.1 hb, h.2.2.2⟩
theorem RG.drew (h : RG w b g r p q W) : RG w b g r p q W.drew := ⟨h.1, h.2.1, h.2.2.1.drew, h.2.2.2⟩
theorem RG.but (h : RG w b g r p q W) (hD : Done g r p q W') (hK : But g W W') : RG w b g r p q W' :=
  ⟨But.blk hK h.1 h.2.2.2.1, .inr hD, But.to hK h.2.2.1 h.2.2.1.size h.2.2.2.2, h.2.2.2⟩
theorem RG.six (h : RG w b g r p q W) : Six b r W := six_of h.1
theorem draw_RG {k : Nat} {what load dir v : Int} (h : RG w b g r p q W) (hd : rates_Draw.f k r.f0 r.f1 r.f2 r.f3 r.f4 r.f5 what load dir = some v) :
    Calls Try.prog 29 #[.agg #[.int .i64 r.f0, .int .i64 r.f1, .int .i64 r.f2, .int .i64 r.f3, .int .i64 r.f4, .int .i64 r.f5], .int .i64 what, .int .i64 load, .int .i64 dir] W fun e W' => e = .returned (.int .i64 v) ∧ RG w b g r p q W' :=
  (rates_Draw.calls k _ _ _ _ _ _ _ _ _ _ _ hd).mono fun e W' ⟨he, hb⟩ => ⟨he, h.below hb⟩
theorem gives_RG {what load dir v : Int} (h : RG w b g r p q W) (hd : rates_Gives.f r.f0 r.f1 r.f2 r.f3 r.f4 r.f5 what load dir = some v) :
    Calls Try.prog 32 #[.agg #[.int .i64 r.f0, .int .i64 r.f1, .int .i64 r.f2, .int .i64 r.f3, .int .i64 r.f4, .int .i64 r.f5], .int .i64 what, .int .i64 load, .int .i64 dir] W fun e W' => e = .returned (.int .i64 v) ∧ RG w b g r p q W' :=
  (rates_Gives.calls _ _ _ _ _ _ _ _ _ _ _ hd).mono fun e W' ⟨he, hb⟩ => ⟨he, h.below hb⟩
theorem peak_RG {load dir v : Int} (h : RG w b g r p q W) (HP : PeaksOf r p q) (hd : peakV r p q load dir = v) :
    Calls Try.prog 35 #[.pointer (some ⟨g, 0, none⟩), .int .i64 load, .int .i64 dir] W fun e W' => e = .returned (.int .i64 v) ∧ RG w b g r p q W' := by
  subst hd
  exact (peak_any g r p q load dir W h.2.1 HP).mono fun e W' ⟨he, hD, hK⟩ => ⟨he, h.but hD hK⟩
theorem most_RG {v : Int} (h : RG w b g r p q W) (HP : PeaksOf r p q) (hd : mK p q 65 = v) :
    Calls Try.prog 36 #[.pointer (some ⟨g, 0, none⟩)] W fun e W' => e = .returned (.int .i64 v) ∧ RG w b g r p q W' := by
  subst hd
  exact (most_any g r p q W h.2.1 HP).mono fun e W' ⟨he, hD, hK⟩ => ⟨he, h.but hD hK⟩
/-- Rates that may be have a table, new since. -/
theorem new_RG (hw : RB b r W) (hB : Below w.heap.size w W) (hbl : b < W.heap.size) (HC : rates_Check.f r.f0 r.f1 r.f2 r.f3 r.f4 r.f5 = some true) :
    Calls Try.prog 34 #[.agg #[.int .i64 r.f0, .int .i64 r.f1, .int .i64 r.f2, .int .i64 r.f3, .int .i64 r.f4, .int .i64 r.f5]] W fun e W' => ∃ g, e = .returned (.pointer (some ⟨g, 0, none⟩)) ∧ Raw g r W' ∧ W.heap.size ≤ g ∧ Below W.heap.size W W' ∧ ∀ p q, RG w b g r p q W' := by
  refine (new_yes r W HC).mono ?_
  rintro e W' ⟨g, he, hg, hR, hb⟩
  have := hB.size
  exact ⟨g, he, hR, hg, hb, fun p q => ⟨blk_below hw hb, .inl hR, below_step hB hb, by omega, by omega⟩⟩
end
end Go.Proofs.Ytomaojmccchibaa.X
