/- The document's Step of a turn, by hand (the printed walk falls at t.Left-- in a region). -/
import Derived.Test.YtbaklgemdljmeaaDoorXx6
import Derived.Outline
namespace Go.Proofs.YtbaklgemdljmeaaDoor.X
open Go.RowKit Go.Proofs.YtbaklgemdljmeaaDoorW.PrintWords Go.Proofs.YtbaklgemdljmeaaDoorW.PrintLast Go.Proofs.YtbaklgemdljmeaaDoorW.PrintMore
attribute [local go_sem] max2_int min2_int max_two min_two max_three min_three max_four min_four
set_option linter.unusedVariables false
set_option linter.unusedSimpArgs false
def paternosterref20_Step.f (k : Nat) (a0_0 : Int) (a0_1 : Int) (a1 : Int) (a2 : Bool) (a3 : Int) : Option (Int × Int) := (paternosterref19_Has.f k a1 a0_0).bind fun t133 => (if t133 = true then (if a2 = true then (some (a0_0, a0_1)) else (if (wrap64 (a0_1 - 1)) < 1 then ((paternosterref20_next.f k a0_0 a1).bind fun t137 => (paternosterref20_of.f t137 a3)) else (some (a0_0, wrap64 (a0_1 - 1))))) else ((paternosterref20_next.f k a0_0 a1).bind fun t134 => (paternosterref20_of.f t134 a3)))
theorem paternosterref20_Step.mono : ∀ a0 a1 a2 a3 a4 k, LeO (paternosterref20_Step.f k a0 a1 a2 a3 a4) (paternosterref20_Step.f (k + 1) a0 a1 a2 a3 a4) := by
  intro a0 a1 a2 a3 a4 k r h
  unfold paternosterref20_Step.f at h ⊢
  obtain ⟨t, ht, h⟩ := Option.bind_eq_some_iff.1 h
  rw [paternosterref19_Has.mono _ _ _ _ ht]
  simp only [Option.bind_some] at h ⊢
  cases t
  · simp only [Bool.false_eq_true, if_false] at h ⊢
    obtain ⟨u, hu, h⟩ := Option.bind_eq_some_iff.1 h
    rw [paternosterref20_next.mono _ _ _ _ hu]; exact h
  · simp only [if_true] at h ⊢
    cases a3
    · simp only [Bool.false_eq_true, if_false] at h ⊢
      by_cases c : wrap64 (a1 - 1) < 1
      · rw [if_pos c] at h ⊢
        obtain ⟨u, hu, h⟩ := Option.bind_eq_some_iff.1 h
        rw [paternosterref20_next.mono _ _ _ _ hu]; exact h
      · rw [if_neg c] at h ⊢; exact h
    · simpa using h
theorem two_blk (w : World) (X Z : Obj) : ((w.alloc X).alloc Z).heap[w.heap.size + 1]? = some Z := by
  have h := blk_new (w.alloc X) Z
  rw [show (w.alloc X).heap.size = w.heap.size + 1 by simp] at h
  exact h
set_option maxHeartbeats 1600000 in
theorem paternosterref20_Step.calls (k : Nat) (a0_0 : Int) (a0_1 : Int) (a1 : Int) (a2 : Bool) (a3 : Int) (r1 : Int) (r2 : Int) (w : World) (h : paternosterref20_Step.f k a0_0 a0_1 a1 a2 a3 = some (r1, r2)) :
    Calls Tryd.prog 9 #[.agg #[.int .i64 a0_0, .int .i64 a0_1], .int .u64 a1, .bool a2, .int .i64 a3] w fun e w' => e = .returned (.agg #[.int .i64 r1, .int .i64 r2]) ∧ Below w.heap.size w w' := by
  unfold paternosterref20_Step.f at h
  obtain ⟨t, ht, h⟩ := Option.bind_eq_some_iff.1 h
  have HT := Aside0.mk ht
  have H := Aside0.mk h
  clear ht h
  go_enter Tryd.func9, Tryd.ntmps9
  go_wp2_with fail
  refine (paternosterref19_Has.calls _ _ _ _ _ HT.out).mono ?_
  rintro e w1 ⟨rfl, n1, rfl⟩
  cases t
  · have hf : (paternosterref20_next.f k a0_0 a1).bind (fun t134 => paternosterref20_of.f t134 a3) = some (r1, r2) := by have h := H.out; simpa using h
    obtain ⟨u, hu, ho⟩ := Option.bind_eq_some_iff.1 hf
    have HU := Aside0.mk hu
    have HO := Aside0.mk ho
    clear hf hu ho H
    go_wp2_with fail
    refine (paternosterref20_next.calls _ _ _ _ _ HU.out).mono ?_
    rintro e w2 ⟨rfl, n2, rfl⟩
    go_wp2_with fail
    refine (paternosterref20_of.calls _ _ _ _ _ HO.out).mono ?_
    rintro e w3 ⟨rfl, hb3⟩
    have HZ := blk_below (blk_drewN (two_blk w (.cells #[.int .i64 a0_0, .int .i64 a0_1] 28) (.cells #[.int .i64 0, .int .i64 0] 28)) _) hb3
    have k0 := (blk_cell HZ 0).trans (rfl : _ = some (Value.int .i64 0))
    have k1 := (blk_cell HZ 1).trans (rfl : _ = some (Value.int .i64 0))
    have z0 := blk_frozen HZ 0
    have z1 := blk_frozen HZ 1
    have HB3 := Aside0.mk (show Below w.heap.size w w3 from (below_step (by repeat (first | exact Below.refl _ _ | apply pw_below_drewN | refine below_alloc ?_ _ | refine below_set ?_ (Nat.le_refl _))) hb3))
    clear hb3 HZ
    go_wp2_with fail
    refine bodyPost_ret (v := .agg #[.int .i64 r1, .int .i64 r2]) (by simp [results, Tryd.results9, go_sem, k0, k1, z0, z1]) rfl ⟨rfl, ?_⟩
    repeat (first | exact HB3.out | refine below_set ?_ (by omega) | refine Below.drew ?_)
  · cases a2
    · by_cases c : wrap64 (a0_1 - 1) < 1
      · have hf : (paternosterref20_next.f k a0_0 a1).bind (fun t134 => paternosterref20_of.f t134 a3) = some (r1, r2) := by have h := H.out; simpa [c] using h
        obtain ⟨u, hu, ho⟩ := Option.bind_eq_some_iff.1 hf
        have HU := Aside0.mk hu
        have HO := Aside0.mk ho
        have c0 : decide (wrap64 (a0_1 - 1) < 1) = true := decide_eq_true c
        clear hf hu ho H c
        go_wp2_with fail
        refine (paternosterref20_next.calls _ _ _ _ _ HU.out).mono ?_
        rintro e w2 ⟨rfl, n2, rfl⟩
        go_wp2_with fail
        refine (paternosterref20_of.calls _ _ _ _ _ HO.out).mono ?_
        rintro e w3 ⟨rfl, hb3⟩
        have HZ := blk_below (blk_drewN (blk_far (blk_drewN (two_blk w (.cells #[.int .i64 a0_0, .int .i64 a0_1] 28) (.cells #[.int .i64 0, .int .i64 0] 28)) _) (show w.heap.size + 1 ≠ w.heap.size by omega) _) _) hb3
        have k0 := (blk_cell HZ 0).trans (rfl : _ = some (Value.int .i64 0))
        have k1 := (blk_cell HZ 1).trans (rfl : _ = some (Value.int .i64 0))
        have z0 := blk_frozen HZ 0
        have z1 := blk_frozen HZ 1
        have HB3 := Aside0.mk (show Below w.heap.size w w3 from (below_step (by repeat (first | exact Below.refl _ _ | apply pw_below_drewN | refine below_alloc ?_ _ | refine below_set ?_ (Nat.le_refl _))) hb3))
        clear hb3 HZ
        go_wp2_with fail
        refine bodyPost_ret (v := .agg #[.int .i64 r1, .int .i64 r2]) (by simp [results, Tryd.results9, go_sem, k0, k1, z0, z1]) rfl ⟨rfl, ?_⟩
        repeat (first | exact HB3.out | refine below_set ?_ (by omega) | refine Below.drew ?_)
      · have hf : some (a0_0, wrap64 (a0_1 - 1)) = some (r1, r2) := by have h := H.out; simpa [c] using h
        simp only [Option.some.injEq, Prod.mk.injEq] at hf
        obtain ⟨rfl, rfl⟩ := hf
        have c0 : decide (wrap64 (a0_1 - 1) < 1) = false := decide_eq_false c
        clear H c
        go_wp2_with fail
        refine bodyPost_ret (v := .agg #[.int .i64 a0_0, .int .i64 (wrap64 (a0_1 - 1))]) (by simp [results, Tryd.results9, go_sem]) rfl ⟨rfl, ?_⟩
        repeat (first | exact Below.refl _ _ | apply pw_below_drewN | refine below_alloc ?_ _ | refine below_set ?_ (by omega) | refine Below.drew ?_)
    · have hf : some (a0_0, a0_1) = some (r1, r2) := by have h := H.out; simpa using h
      simp only [Option.some.injEq, Prod.mk.injEq] at hf
      obtain ⟨rfl, rfl⟩ := hf
      clear H
      go_wp2_with fail
      refine bodyPost_ret (v := .agg #[.int .i64 a0_0, .int .i64 a0_1]) (by simp [results, Tryd.results9, go_sem]) rfl ⟨rfl, ?_⟩
      repeat (first | exact Below.refl _ _ | apply pw_below_drewN | refine below_alloc ?_ _ | refine below_set ?_ (by omega) | refine Below.drew ?_)
end Go.Proofs.YtbaklgemdljmeaaDoor.X
