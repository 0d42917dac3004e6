/- A law's own group, in later worlds. -/
import Derived.Test.YtomaojmccchibaaConfOrdered
namespace Go.Proofs.Ytomaojmccchibaa.X
open Go.RowKit Go.Proofs.YtomaojmccchibaaW.PrintWords Go.Proofs.YtomaojmccchibaaW.PrintLast Go.Proofs.YtomaojmccchibaaW.PrintMore
set_option linter.unusedVariables false
set_option linter.unusedSimpArgs false

theorem BX.cells {A B : Option Addr} {n cn m cm : Nat} {x1 x2 x4 x5 x6 x7 x8 x9 x10 x11 x12 : Int} {g : Nat} {w : World} (h : BX A B n cn m cm x1 x2 x4 x5 x6 x7 x8 x9 x10 x11 x12 g w) : w.cell? ⟨g, 0, none⟩ = some (.slice A n cn) ∧ w.cell? ⟨g, 1, none⟩ = some (.int .i64 x1) ∧ w.cell? ⟨g, 2, none⟩ = some (.int .i64 x2) ∧ w.cell? ⟨g, 3, none⟩ = some (.slice B m cm) ∧ w.cell? ⟨g, 4, none⟩ = some (.int .i64 x4) ∧ w.cell? ⟨g, 5, none⟩ = some (.int .i64 x5) ∧ w.cell? ⟨g, 6, none⟩ = some (.int .i64 x6) ∧ w.cell? ⟨g, 7, none⟩ = some (.int .i64 x7) ∧ w.cell? ⟨g, 8, none⟩ = some (.int .i64 x8) ∧ w.cell? ⟨g, 9, none⟩ = some (.int .i64 x9) ∧ w.cell? ⟨g, 10, none⟩ = some (.int .i64 x10) ∧ w.cell? ⟨g, 11, none⟩ = some (.int .i64 x11) ∧ w.cell? ⟨g, 12, none⟩ = some (.int .i64 x12) :=
  ⟨(blk_cell h 0).trans rfl, (blk_cell h 1).trans rfl, (blk_cell h 2).trans rfl, (blk_cell h 3).trans rfl, (blk_cell h 4).trans rfl, (blk_cell h 5).trans rfl, (blk_cell h 6).trans rfl, (blk_cell h 7).trans rfl, (blk_cell h 8).trans rfl, (blk_cell h 9).trans rfl, (blk_cell h 10).trans rfl, (blk_cell h 11).trans rfl, (blk_cell h 12).trans rfl⟩
/-- The law's own group, as it was, in a later world. -/
def DD (A B : Option Addr) (n cn m cm : Nat) (x1 x2 x4 x5 x6 x7 x8 x9 x10 x11 x12 : Int) (w w' : World) : Prop :=
  BX A B n cn m cm x1 x2 x4 x5 x6 x7 x8 x9 x10 x11 x12 w.heap.size w' ∧ Below w.heap.size w w'
section
variable {A B : Option Addr} {n cn m cm : Nat} {x1 x2 x4 x5 x6 x7 x8 x9 x10 x11 x12 : Int} {w w' w2 : World}
theorem DD.below (h : DD A B n cn m cm x1 x2 x4 x5 x6 x7 x8 x9 x10 x11 x12 w w') (hb : Below w'.heap.size w' w2) : DD A B n cn m cm x1 x2 x4 x5 x6 x7 x8 x9 x10 x11 x12 w w2 := ⟨blk_below h.1 hb, below_step h.2 hb⟩
theorem DD.drew (h : DD A B n cn m cm x1 x2 x4 x5 x6 x7 x8 x9 x10 x11 x12 w w') : DD A B n cn m cm x1 x2 x4 x5 x6 x7 x8 x9 x10 x11 x12 w w'.drew := ⟨h.1, h.2.drew⟩
end
end Go.Proofs.Ytomaojmccchibaa.X
