/- The example of layer 10 answers true. -/
import Derived.Test.YtangjedacimmcaaFeedExt
import Derived.Test.YtangjedacimmcaaFeedStep
namespace Go.Proofs.Ytangjedacimmcaa.X
open Go.RowKit Go.Proofs.YtangjedacimmcaaW.PrintWords Go.Proofs.YtangjedacimmcaaW.PrintLast Go.Proofs.YtangjedacimmcaaW.PrintMore
attribute [local go_sem] max2_int min2_int max_two min_two max_three min_three max_four min_four
set_option linter.unusedVariables false
set_option linter.unusedSimpArgs false
theorem cell_after {w w2 : World} {c : Array Value} {t : TypeId} (hb : Below (w.alloc (.cells c t)).heap.size (w.alloc (.cells c t)) w2) (i : Nat) (v : Value) (h : c[i]? = some v) :
    w2.cell? ⟨w.heap.size, i, none⟩ = some v := by
  rw [hb.cell (p := ⟨w.heap.size, i, none⟩) (by simp)]
  have hl : (w.alloc (.cells c t)).heap[w.heap.size]? = some (.cells c t) := by
    show (w.heap.push _)[w.heap.size]? = _
    simp
  simp only [World.cell?, hl]
  exact h
theorem cell_next {w w2 : World} {X : Obj} {b i : Nat} {v : Value} (hb : Below (w.alloc X).heap.size (w.alloc X) w2) (h : w.cell? ⟨b, i, none⟩ = some v) : w2.cell? ⟨b, i, none⟩ = some v := by
  have hlt : b < w.heap.size := by
    apply Classical.byContradiction
    intro hn
    have : w.heap[b]? = none := by simp; omega
    simp only [World.cell?, this] at h
    simp at h
  exact pw_cell_below (below_step (below_alloc (Below.refl _ _) X) hb) h
theorem newOne (w : World) : Calls Try.prog 15 #[.int .i64 1] w fun e w' => e = .returned (.agg #[.int .i64 1, .int .i64 0, .int .i64 0, .int .i64 0, .int .i64 0, .int .i64 0, .int .i64 0, .int .i64 0, .int .i64 0]) ∧ Below w.heap.size w w' := by
  have h := new_any 1 w
  rw [show lagOf 1 = 1 by simp [lagOf, mn, mx]] at h
  exact h
theorem tellOne (w : World) : Calls Try.prog 16 #[.agg #[.int .i64 1, .int .i64 0, .int .i64 0, .int .i64 0, .int .i64 0, .int .i64 0, .int .i64 0, .int .i64 0, .int .i64 0], .int .i64 7] w fun e w' => e = .returned (.tuple #[.agg #[.int .i64 1, .int .i64 7, .int .i64 0, .int .i64 0, .int .i64 0, .int .i64 0, .int .i64 0, .int .i64 0, .int .i64 0], .int .i64 0]) ∧ Below w.heap.size w w' :=
  tell1 0 0 0 0 0 0 0 0 7 7 ⟨by simp [capOf, mn, mx]⟩ w
theorem tellTwo (w : World) : Calls Try.prog 16 #[.agg #[.int .i64 1, .int .i64 7, .int .i64 0, .int .i64 0, .int .i64 0, .int .i64 0, .int .i64 0, .int .i64 0, .int .i64 0], .int .i64 9] w fun e w' => e = .returned (.tuple #[.agg #[.int .i64 1, .int .i64 9, .int .i64 7, .int .i64 0, .int .i64 0, .int .i64 0, .int .i64 0, .int .i64 0, .int .i64 0], .int .i64 7]) ∧ Below w.heap.size w w' :=
  tell1 7 0 0 0 0 0 0 0 9 9 ⟨by simp [capOf, mn, mx]⟩ w
def paternosterlaw10_awake.f  : Option (Bool) := some true
set_option maxHeartbeats 1600000 in
theorem paternosterlaw10_awake.calls  (r : Bool) (w : World) (h : paternosterlaw10_awake.f  = some r) :
    Calls Try.prog 9 #[] w fun e w' => e = .returned (.bool r) ∧ Below w.heap.size w w' := by
  obtain rfl := Option.some.inj h
  have S1 := Aside0.mk (show feed_Feed_Step.f 1 0 0 2 true 2 = some (0, 2, 2) by simp [feed_Feed_Step.f, stp, wrap64, mn, mx])
  have S2 := Aside0.mk (show feed_Feed_Step.f 0 2 2 1 false 9 = some (0, 2, 1) by simp [feed_Feed_Step.f, stp, wrap64, mn, mx])
  have S3 := Aside0.mk (show feed_Feed_Step.f 0 2 1 2 true 2 = some (2, 0, 0) by simp [feed_Feed_Step.f, stp, wrap64, mn, mx])
  go_enter Try.func9, Try.ntmps9
  go_wp2_with fail
  refine (feed_Feed_Step.calls _ _ _ _ _ _ _ _ _ _ S1.out).mono ?_
  rintro e w1 ⟨rfl, hb1⟩
  have z1 : w.heap.size < w1.heap.size := by have := hb1.size; simp at this; omega
  have HB1 := Aside0.mk hb1
  clear hb1
  go_wp2_with fail
  refine (feed_Feed_Step.calls _ _ _ _ _ _ _ _ _ _ S2.out).mono ?_
  rintro e w2 ⟨rfl, hb2⟩
  have z2 : w1.heap.size < w2.heap.size := by have := hb2.size; simp at this; omega
  have ca := Aside0.mk (cell_after hb2 0 _ rfl)
  have HB2 := Aside0.mk hb2
  clear hb2
  go_wp2_with fail
  refine (feed_Feed_Step.calls _ _ _ _ _ _ _ _ _ _ S3.out).mono ?_
  rintro e w3 ⟨rfl, hb3⟩
  have z3 : w2.heap.size < w3.heap.size := by have := hb3.size; simp at this; omega
  have cb := Aside0.mk (cell_after hb3 0 _ rfl)
  replace ca := Aside0.mk (cell_next hb3 ca.out)
  have HB3 := Aside0.mk hb3
  clear hb3
  go_wp2_with fail
  refine (newOne _).mono ?_
  rintro e w4 ⟨rfl, hb4⟩
  have z4 : w3.heap.size < w4.heap.size := by have := hb4.size; simp at this; omega
  have cc0 := Aside0.mk (cell_after hb4 0 _ rfl)
  have cc1 := Aside0.mk (cell_after hb4 1 _ rfl)
  have cc2 := Aside0.mk (cell_after hb4 2 _ rfl)
  replace ca := Aside0.mk (cell_next hb4 ca.out)
  replace cb := Aside0.mk (cell_next hb4 cb.out)
  have HB4 := Aside0.mk hb4
  clear hb4
  go_wp2_with fail
  refine (tellOne _).mono ?_
  rintro e w5 ⟨rfl, hb5⟩
  have z5 : w3.heap.size < w5.heap.size := by have := hb5.size; omega
  replace cc0 := Aside0.mk (pw_cell_below hb5 cc0.out)
  replace cc1 := Aside0.mk (pw_cell_below hb5 cc1.out)
  replace cc2 := Aside0.mk (pw_cell_below hb5 cc2.out)
  replace ca := Aside0.mk (pw_cell_below hb5 ca.out)
  replace cb := Aside0.mk (pw_cell_below hb5 cb.out)
  have HB5 := Aside0.mk hb5
  clear hb5
  go_wp2_with fail
  refine (tellTwo _).mono ?_
  rintro e w6 ⟨rfl, hb6⟩
  have z6 : w5.heap.size < w6.heap.size := by have := hb6.size; simp at this; omega
  have d0 := cell_next hb6 cc0.out
  have d1 := cell_next hb6 cc1.out
  have d2 := cell_next hb6 cc2.out
  have da := cell_next hb6 ca.out
  have db := cell_next hb6 cb.out
  have y1 : w1.heap.size < w6.heap.size := by omega
  have y2 : w2.heap.size < w6.heap.size := by omega
  have y3 : w3.heap.size < w6.heap.size := by omega
  have HB6 := Aside0.mk hb6
  clear hb6
  go_wp2_with (go_at_call 13; go_in)
  go_ret
  exact ⟨rfl, by repeat (first | exact Below.refl _ _ | refine below_step ?_ HB6.out | refine below_step ?_ HB5.out | refine below_step ?_ HB4.out | refine below_step ?_ HB3.out | refine below_step ?_ HB2.out | refine below_step ?_ HB1.out | refine below_set ?_ (by omega) | apply below_alloc | apply pw_below_drewN | apply Below.drew)⟩

end Go.Proofs.Ytangjedacimmcaa.X
