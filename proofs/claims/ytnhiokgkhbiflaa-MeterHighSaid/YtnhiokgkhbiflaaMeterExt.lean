/- The example of layer 11 answers true. -/
import Derived.Test.YtnhiokgkhbiflaaMeterPlain
namespace Go.Proofs.Ytnhiokgkhbiflaa.X
open Go.RowKit Go.Proofs.YtnhiokgkhbiflaaW.PrintWords Go.Proofs.YtnhiokgkhbiflaaW.PrintLast Go.Proofs.YtnhiokgkhbiflaaW.PrintMore
attribute [local go_sem] max2_mx min2_mn max_two min_two
set_option linter.unusedVariables false
set_option linter.unusedSimpArgs false

def paternosterlaw11_awake.f  : Option (Bool) := some true
set_option maxRecDepth 100000 in
set_option maxHeartbeats 4000000 in
theorem paternosterlaw11_awake.calls  (r : Bool) (w : World) (h : paternosterlaw11_awake.f  = some r) :
    Calls Try.prog 28 #[] w fun e w' => e = .returned (.bool r) ∧ Below w.heap.size w w' := by
  obtain rfl := Option.some.inj h
  clear h
  have e5 : sumV [3, -4, 2] = 5 := by decide
  have e0 : sumV [] = 0 := by decide
  have em : mx 0 5 = 5 := by decide
  have em2 : mx 5 0 = 5 := by decide
  have E := Aside0.mk (And.intro e5 (And.intro e0 (And.intro em em2)))
  clear e5 e0 em em2
  go_enter Try.func28, Try.ntmps28
  go_wp2_with fail
  refine (new_any _).mono ?_
  rintro e w1 ⟨rfl, m, hb⟩
  have M1 := Aside0.mk m
  have B1 := Aside0.mk hb
  have G1 := Aside0.mk (MB.lt m)
  clear m hb
  go_wp2_with fail
  refine (tick_v w.heap.size 0 0 0 1 _ 3 [3, -4, 2] _ (M1.out.below (below_alloc (Below.refl _ _) _)) (lit_C (blk_new w1 _) (by decide)) (by decide) (by decide +kernel)).mono ?_
  rintro e w2 ⟨rfl, m, hk⟩
  rw [E.out.1, E.out.2.2.1] at m
  rw [E.out.1]
  have M2 := Aside0.mk m
  have B2 := Aside0.mk (But.to hk (below_alloc B1.out _) (by have := B1.out.size; simp; omega) (Nat.le_refl _))
  clear m hk
  go_wp2_with fail
  refine (tick_v w.heap.size 5 5 1 2 none 0 [] _ M2.out (Kd.C_nil _ _) (by decide) (by decide +kernel)).mono ?_
  rintro e w3 ⟨rfl, m, hk⟩
  rw [E.out.2.1, E.out.2.2.2] at m
  rw [E.out.2.1]
  have M3 := Aside0.mk m
  have B3 := Aside0.mk (But.to hk B2.out B2.out.size (Nat.le_refl _))
  clear m hk
  go_wp2_with fail
  refine (high_any w.heap.size 0 5 2 _ M3.out).mono ?_
  rintro e w4 ⟨rfl, rfl⟩
  go_wp2_with fail
  refine (last_any w.heap.size 0 5 2 _ M3.out).mono ?_
  rintro e w5 ⟨rfl, rfl⟩
  go_wp2_with fail
  refine (ticks_any w.heap.size 0 5 2 _ M3.out).mono ?_
  rintro e w6 ⟨rfl, rfl⟩
  go_wp2_with fail
  go_ret
  exact ⟨rfl, B3.out⟩
end Go.Proofs.Ytnhiokgkhbiflaa.X
