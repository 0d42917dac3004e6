/- Feed.Step and the reference's Step, by hand: one plain function. -/
import Derived.Test.YtangjedacimmcaaXx0
import Derived.Outline
namespace Go.Proofs.Ytangjedacimmcaa.X
open Go.RowKit Go.Proofs.YtangjedacimmcaaW.PrintWords Go.Proofs.YtangjedacimmcaaW.PrintLast Go.Proofs.YtangjedacimmcaaW.PrintMore
attribute [local go_sem] max2_int min2_int max_two min_two max_three min_three max_four min_four
set_option linter.unusedVariables false
set_option linter.unusedSimpArgs false

def stp (a t l want : Int) (still : Bool) (dead : Int) : Int × Int × Int :=
  if a = 1 ∨ a = 2 then (if want = a ∨ ¬ (want = 1 ∨ want = 2) ∨ still = false then (a, t, l) else (0, want, mn (mx dead 1) 200))
  else if wrap64 (l - 1) ≥ 1 then (a, t, wrap64 (l - 1)) else if t = 1 ∨ t = 2 then (t, 0, 0) else (1, 0, 0)
def feed_Feed_Step.f (a0_0 : Int) (a0_1 : Int) (a0_2 : Int) (a1 : Int) (a2 : Bool) (a3 : Int) : Option (Int × Int × Int) := some (stp a0_0 a0_1 a0_2 a1 a2 a3)

set_option maxHeartbeats 1600000 in
theorem feed_Feed_Step.calls (a0_0 : Int) (a0_1 : Int) (a0_2 : Int) (a1 : Int) (a2 : Bool) (a3 : Int) (r1 : Int) (r2 : Int) (r3 : Int) (w : World) (h : feed_Feed_Step.f a0_0 a0_1 a0_2 a1 a2 a3 = some (r1, r2, r3)) :
    Calls Try.prog 10 #[.agg #[.int .i64 a0_0, .int .i64 a0_1, .int .i64 a0_2], .int .i64 a1, .bool a2, .int .i64 a3] w fun e w' => e = .returned (.agg #[.int .i64 r1, .int .i64 r2, .int .i64 r3]) ∧ Below w.heap.size w w' := by
  have H := Aside0.mk (show stp a0_0 a0_1 a0_2 a1 a2 a3 = (r1, r2, r3) from Option.some.inj h)
  clear h
  cases a2
  all_goals
    obtain ⟨x, hx⟩ : ∃ x, (if a3 < 1 then 1 else a3) = x := ⟨_, rfl⟩
    obtain ⟨y, hy⟩ : ∃ y, (if 200 < x then 200 else x) = y := ⟨_, rfl⟩
    have Hm := Aside0.mk (show mn (mx a3 1) 200 = y by rw [← hy, ← hx]; rfl)
    go_enter Try.func10, Try.ntmps10
    go_wp2_with (first | (go_at_call 18; go_in) | go_in)
    all_goals
      have h := H.out
      simp only [stp, Hm.out, or_true, or_false, true_or, if_true, if_false, reduceCtorEq] at h
      refine bodyPost_ret (v := .agg #[.int .i64 r1, .int .i64 r2, .int .i64 r3]) ?_ rfl ⟨rfl, ?_⟩
      · clear Hm H
        simp [results, Try.results10, go_sem]
        repeat' split at h
        all_goals simp at h
        all_goals try simp only [beq_iff_eq, beq_eq_false_iff_ne, ne_eq] at *
        all_goals first | omega | (exfalso; omega) | (obtain ⟨rfl, rfl, rfl⟩ := h; go_simp; done)
      · repeat (first | exact Below.refl _ _ | refine below_set ?_ (by omega) | refine Below.drew ?_ | refine below_alloc ?_ _)

def rstp (a t l want : Int) (still : Bool) (dead : Int) : Int × Int × Int :=
  if a = 1 ∨ a = 2 then (if want = a ∨ ¬ (want = 1 ∨ want = 2) ∨ still = false then (a, t, l) else (0, want, mn (mx dead 1) 200))
  else if l > 1 then (a, t, wrap64 (l - 1)) else if t = 2 then (2, 0, 0) else (1, 0, 0)
def paternosterref10_Step.f (a0_0 : Int) (a0_1 : Int) (a0_2 : Int) (a1 : Int) (a2 : Bool) (a3 : Int) : Option (Int × Int × Int) := some (rstp a0_0 a0_1 a0_2 a1 a2 a3)

set_option maxHeartbeats 1600000 in
theorem paternosterref10_Step.calls (a0_0 : Int) (a0_1 : Int) (a0_2 : Int) (a1 : Int) (a2 : Bool) (a3 : Int) (r1 : Int) (r2 : Int) (r3 : Int) (w : World) (h : paternosterref10_Step.f a0_0 a0_1 a0_2 a1 a2 a3 = some (r1, r2, r3)) :
    Calls Try.prog 12 #[.agg #[.int .i64 a0_0, .int .i64 a0_1, .int .i64 a0_2], .int .i64 a1, .bool a2, .int .i64 a3] w fun e w' => e = .returned (.agg #[.int .i64 r1, .int .i64 r2, .int .i64 r3]) ∧ Below w.heap.size w w' := by
  have H := Aside0.mk (show rstp a0_0 a0_1 a0_2 a1 a2 a3 = (r1, r2, r3) from Option.some.inj h)
  clear h
  cases a2
  all_goals
    obtain ⟨x, hx⟩ : ∃ x, (if a3 < 1 then 1 else a3) = x := ⟨_, rfl⟩
    obtain ⟨y, hy⟩ : ∃ y, (if 200 < x then 200 else x) = y := ⟨_, rfl⟩
    have Hm := Aside0.mk (show mn (mx a3 1) 200 = y by rw [← hy, ← hx]; rfl)
    go_enter Try.func12, Try.ntmps12
    go_wp2_with go_in
    all_goals
      have h := H.out
      simp only [rstp, Hm.out, or_true, or_false, true_or, if_true, if_false, reduceCtorEq] at h
      refine bodyPost_ret (v := .agg #[.int .i64 r1, .int .i64 r2, .int .i64 r3]) ?_ rfl ⟨rfl, ?_⟩
      · clear Hm H
        simp [results, Try.results12, go_sem]
        repeat' split at h
        all_goals simp at h
        all_goals try simp only [beq_iff_eq, beq_eq_false_iff_ne, ne_eq] at *
        all_goals first | omega | (exfalso; omega) | (obtain ⟨rfl, rfl, rfl⟩ := h; go_simp; done)
      · repeat (first | exact Below.refl _ _ | refine below_set ?_ (by omega) | refine Below.drew ?_ | refine below_alloc ?_ _)
end Go.Proofs.Ytangjedacimmcaa.X
