/- The example of layer 9 answers true. -/
import Derived.Test.YtnhiokgkhbiflaaCellExt
import Derived.Test.YtnhiokgkhbiflaaXx1
namespace Go.Proofs.Ytnhiokgkhbiflaa.X
open Go.RowKit Go.Proofs.YtnhiokgkhbiflaaW.PrintWords Go.Proofs.YtnhiokgkhbiflaaW.PrintLast Go.Proofs.YtnhiokgkhbiflaaW.PrintMore
attribute [local go_sem] max2_int min2_int max_two min_two max_three min_three max_four min_four
set_option linter.unusedVariables false
set_option linter.unusedSimpArgs false
attribute [local go_sem high] eqA25

theorem field_have (x y : Int) (w : World) : (Instr.field 25 (.agg #[.int .i64 x, .int .i64 y]) 0).run Try.prog w = .ok (.int .i64 x) w := by kernel_rfl
attribute [local go_sem] field_have
def paternosterlaw09_awake.f  : Option (Bool) := some true
set_option maxHeartbeats 800000 in
theorem paternosterlaw09_awake.calls  (r : Bool) (w : World) (h : paternosterlaw09_awake.f  = some r) :
    Calls Try.prog 16 #[] w fun e w' => e = .returned (.bool r) ∧ Below w.heap.size w w' := by
  obtain rfl := Option.some.inj h
  have s1 : cell_Cell_Spend.f 3 5 4 = some (3, 5, false) := by decide
  have s2 : cell_Cell_Fill.f 3 5 4 = some (5, 5) := by simp [cell_Cell_Fill.f, withV, upV, addV, bnd, mx, mn, wrap64]
  have S1 := Aside0.mk s1
  have S2 := Aside0.mk s2
  clear s1 s2
  go_enter Try.func16, Try.ntmps16
  go_wp2_with fail
  refine (cell_Cell_Spend.calls _ _ _ _ _ _ _ S1.out).mono ?_
  rintro e w1 ⟨rfl, hb1⟩
  obtain ⟨hc, hf⟩ := bcell hb1
  have hz : w.heap.size < w1.heap.size := by have := hb1.size; simp at this; omega
  have hc0 : w1.cell? ⟨w.heap.size, 0, none⟩ = some (.int .i64 3) := by rw [hc _ _ (by simp)]; go_simp
  have hc1 : w1.cell? ⟨w.heap.size, 1, none⟩ = some (.int .i64 5) := by rw [hc _ _ (by simp)]; go_simp
  have HB := Aside0.mk hb1
  clear hb1 hc hf
  go_wp2_with fail
  refine (cell_Cell_Fill.calls _ _ _ _ _ _ S2.out).mono ?_
  rintro e w2 ⟨rfl, hb2⟩
  have hz2 : w.heap.size < w2.heap.size := by have := hb2.size; simp at this; omega
  have HB2 := Aside0.mk hb2
  have hc20 := pw_cell_below (below_step (below_alloc (Below.refl _ _) _) hb2) hc0
  have hc21 := pw_cell_below (below_step (below_alloc (Below.refl _ _) _) hb2) hc1
  clear hb2
  go_wp2_with (go_at_call 21; go_in)
  go_ret
  exact ⟨rfl, by repeat (first | exact Below.refl _ _ | refine below_step ?_ HB2.out | refine below_step ?_ HB.out | refine below_set ?_ (by omega) | apply below_alloc | apply pw_below_drewN | apply below_drew)⟩

end Go.Proofs.Ytnhiokgkhbiflaa.X
