/- Calls in a region beside boxed rates and a table: each with what stays so. -/
import Derived.Test.YtomaojmccchibaaRatesAwake
import Derived.Deep.RegionHeld3
namespace Go.Proofs.Ytomaojmccchibaa.X
open Go.RowKit Go.Proofs.YtomaojmccchibaaW.PrintWords Go.Proofs.YtomaojmccchibaaW.PrintLast Go.Proofs.YtomaojmccchibaaW.PrintMore
set_option linter.unusedVariables false
set_option linter.unusedSimpArgs false

theorem max2_mx (k k' : IntKind) (x y : Int) : Builtin.max2 (.int k x) (.int k' y) = pure (.int k (mx x y)) := by unfold mx; exact max2_int k k' x y
theorem min2_mn (k k' : IntKind) (x y : Int) : Builtin.min2 (.int k x) (.int k' y) = pure (.int k (mn x y)) := by unfold mn; exact min2_int k k' x y
/-- The boxed rates, a table, and all before as it was. -/
def RG (w : World) (b g : Nat) (r : S36) (p q : Nat → Int) (W : World) : Prop := RB b r W ∧ Tbl g r p q W ∧ Below w.heap.size w W ∧ b ≠ g ∧ w.heap.size ≤ g
section
variable {w W W' : World} {b g : Nat} {r : S36} {p q : Nat → Int}
theorem RG.below (h : RG w b g r p q W) (hb : Below W.heap.size W W') : RG w b g r p q W' :=
  ⟨blk_below h.1 hb, h.2.1.elim (fun t => .inl (TB.below t hb)) (fun t => .inr (TB.below t hb)), below_step h.2.2.1 hb, h.2.2.2⟩
theorem RG.drew (h : RG w b g r p q W) : RG w b g r p q W.drew := ⟨h.1, h.2.1, h.2.2.1.drew, h.2.2.2⟩
theorem RG.but (h : RG w b g r p q W) (hD : Done g r p q W') (hK : But g W W') : RG w b g r p q W' :=
  ⟨But.blk hK h.1 h.2.2.2.1, .inr hD, But.to hK h.2.2.1 h.2.2.1.size h.2.2.2.2, h.2.2.2⟩
theorem RG.six (h : RG w b g r p q W) : Six b r W := six_of h.1
theorem draw_RG {k : Nat} {what load dir v : Int} (h : RG w b g r p q W) (hd : rates_Draw.f k r.f0 r.f1 r.f2 r.f3 r.f4 r.f5 what load dir = some v) :
    Calls Try.prog 29 #[.agg #[.int .i64 r.f0, .int .i64 r.f1, .int .i64 r.f2, .int .i64 r.f3, .int .i64 r.f4, .int .i64 r.f5], .int .i64 what, .int .i64 load, .int .i64 dir] W fun e W' => e = .returned (.int .i64 v) ∧ RG w b g r p q W' :=
  (rates_Draw.calls k _ _ _ _ _ _ _ _ _ _ _ hd).mono fun e W' ⟨he, hb⟩ => ⟨he, h.below hb⟩
theorem gives_RG {what load dir v : Int} (h : RG w b g r p q W) (hd : rates_Gives.f r.f0 r.f1 r.f2 r.f3 r.f4 r.f5 what load dir = some v) :
    Calls Try.prog 32 #[.agg #[.int .i64 r.f0, .int .i64 r.f1, .int .i64 r.f2, .int .i64 r.f3, .int .i64 r.f4, .int .i64 r.f5], .int .i64 what, .int .i64 load, .int .i64 dir] W fun e W' => e = .returned (.int .i64 v) ∧ RG w b g r p q W' :=
  (rates_Gives.calls _ _ _ _ _ _ _ _ _ _ _ hd).mono fun e W' ⟨he, hb⟩ => ⟨he, h.below hb⟩
theorem peak_RG {load dir v : Int} (h : RG w b g r p q W) (HP : PeaksOf r p q) (hd : peakV r p q load dir = v) :
    Calls Try.prog 35 #[.pointer (some ⟨g, 0, none⟩), .int .i64 load, .int .i64 dir] W fun e W' => e = .returned (.int .i64 v) ∧ RG w b g r p q W' := by
  subst hd
  exact (peak_any g r p q load dir W h.2.1 HP).mono fun e W' ⟨he, hD, hK⟩ => ⟨he, h.but hD hK⟩
theorem most_RG {v : Int} (h : RG w b g r p q W) (HP : PeaksOf r p q) (hd : mK p q 65 = v) :
    Calls Try.prog 36 #[.pointer (some ⟨g, 0, none⟩)] W fun e W' => e = .returned (.int .i64 v) ∧ RG w b g r p q W' := by
  subst hd
  exact (most_any g r p q W h.2.1 HP).mono fun e W' ⟨he, hD, hK⟩ => ⟨he, h.but hD hK⟩
/-- Rates that may be have a table, new since. -/
theorem new_RG (hw : RB b r W) (hB : Below w.heap.size w W) (hbl : b < W.heap.size) (HC : rates_Check.f r.f0 r.f1 r.f2 r.f3 r.f4 r.f5 = some true) :
    Calls Try.prog 34 #[.agg #[.int .i64 r.f0, .int .i64 r.f1, .int .i64 r.f2, .int .i64 r.f3, .int .i64 r.f4, .int .i64 r.f5]] W fun e W' => ∃ g, e = .returned (.pointer (some ⟨g, 0, none⟩)) ∧ Raw g r W' ∧ W.heap.size ≤ g ∧ Below W.heap.size W W' ∧ ∀ p q, RG w b g r p q W' := by
  refine (new_yes r W HC).mono ?_
  rintro e W' ⟨g, he, hg, hR, hb⟩
  have := hB.size
  exact ⟨g, he, hR, hg, hb, fun p q => ⟨blk_below hw hb, .inl hR, below_step hB hb, by omega, by omega⟩⟩
end
end Go.Proofs.Ytomaojmccchibaa.X
