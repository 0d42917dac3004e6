/- Turn.Step, by hand: a function literal with three captured variables. -/
import Derived.Test.YtbaklgemdljmeaaDoorXx4
import Derived.Test.YtbaklgemdljmeaaDoorTurnRef
import Derived.Outline
import Derived.Deep.RegionWith
namespace Go.Proofs.YtbaklgemdljmeaaDoor.X
open Go.RowKit Go.Proofs.YtbaklgemdljmeaaDoorW.PrintWords Go.Proofs.YtbaklgemdljmeaaDoorW.PrintLast Go.Proofs.YtbaklgemdljmeaaDoorW.PrintMore
attribute [local go_sem] max2_int min2_int max_two min_two max_three min_three max_four min_four
set_option linter.unusedVariables false
set_option linter.unusedSimpArgs false
def onF (k : Nat) (c ready period : Int) : Option (Int × Int) := (turn_next.f k c ready).bind fun u => turn_of.f u period
set_option maxHeartbeats 1600000 in
theorem on_calls (k : Nat) (c rd pd r1 r2 : Int) (g0 g1 g2 : Nat) (w : World) (hc : w.cell? ⟨g0, 0, none⟩ = some (.int .i64 c)) (hr : w.cell? ⟨g1, 0, none⟩ = some (.int .u64 rd)) (hp : w.cell? ⟨g2, 0, none⟩ = some (.int .i64 pd))
    (h : onF k c rd pd = some (r1, r2)) (LA0 : Laid w) :
    Calls Tryd.prog 15 #[.pointer (some ⟨g0, 0, none⟩), .pointer (some ⟨g1, 0, none⟩), .pointer (some ⟨g2, 0, none⟩)] w fun e w' => e = .returned (.agg #[.int .i64 r1, .int .i64 r2]) ∧ Below w.heap.size w w' := by
  have LA := Aside0.mk LA0
  clear LA0
  obtain ⟨u, hu, ho⟩ := Option.bind_eq_some_iff.1 h
  have HU := Aside0.mk hu
  have HO := Aside0.mk ho
  clear h hu ho
  have hlt := World.block_lt_of_cell? w _ hp
  have hlt0 := World.block_lt_of_cell? w _ hc
  have hlt1 := World.block_lt_of_cell? w _ hr
  simp only at hlt hlt0 hlt1
  go_enter Tryd.func15, Tryd.ntmps15
  go_wp2_with fail
  have hgw := Aside0.mk hlt
  have KZ := Aside0.mk (blk_drew (blk_new w (.cells #[.int .i64 0, .int .i64 0] 23)))
  go_region_with (first
    | (go_at_call 17; refine (turn_next.calls _ _ _ _ _ HU.out ?sideL).mono ?_; (case sideL => exact laid_below LA.out (by repeat (first | exact Below.refl _ _ | apply below_alloc | apply Below.drew))); rintro e w2 ⟨rfl, hb⟩; have hp2 : w2.cell? ⟨g2, 0, none⟩ = some (.int .i64 pd) := (by rw [hb.cell (p := ⟨g2, 0, none⟩) (by simp; omega)]; go_simp); have K2 := Aside0.mk (blk_below KZ.out hb); have B2 := Aside0.mk (show Below w.heap.size w w2 from below_step (Below.drew (below_alloc (Below.refl _ _) _)) hb); clear hb)
    | (go_at_call 16; refine (turn_of.calls _ _ _ _ _ HO.out).mono ?_; rintro e w3 ⟨rfl, hb⟩; have K3 := blk_below K2.out hb; have k0 := (blk_cell K3 0).trans (rfl : _ = some (Value.int .i64 0)); have k1 := (blk_cell K3 1).trans (rfl : _ = some (Value.int .i64 0)); have z0 := blk_frozen K3 0; have z1 := blk_frozen K3 1; have B3 := Aside0.mk (show Below w.heap.size w w3 from below_step B2.out hb); clear hb K3))
  all_goals go_wp2_with fail
  all_goals (refine bodyPost_ret (v := .agg #[.int .i64 r1, .int .i64 r2]) (by simp [results, Tryd.results15, go_sem, k0, k1, z0, z1]) rfl ⟨rfl, ?_⟩; repeat (first | exact B3.out | refine below_set ?_ (by omega) | refine Below.drew ?_))
def turn_Turn_Step.f (a0_0 : Int) (a0_1 : Int) (a1 : Int) (a2 : Bool) (a3 : Int) : Option (Int × Int) := (order_Has.f a1 a0_0).bind fun t => (if t = true then (if a2 = true then some (a0_0, a0_1) else (if wrap64 (a0_1 - 1) < 1 then onF 100 a0_0 a1 a3 else some (a0_0, wrap64 (a0_1 - 1)))) else onF 100 a0_0 a1 a3)
theorem eqTurn (d : Nat) (w : World) (x0 y0 : Int) (x1 y1 : Int) :
    (Op.equalIn (d + 2) 23 (.agg #[.int .i64 x0, .int .i64 x1]) (.agg #[.int .i64 y0, .int .i64 y1])).run Tryd.prog w = .ok (x0 == y0 && (x1 == y1)) w := by
  refine eqA_of Tryd.underlying23 (by kernel_rfl) ?_
  refine eqf_cons (by rfl) (by go_simp; rfl) (by go_simp; rfl) (by go_simp) ?_
  exact eqf_last (by rfl) (by go_simp; rfl) (by go_simp; rfl) (by go_simp)
attribute [local go_sem high] eqTurn
theorem blk4 (w : World) (a b c d : Obj) : ((((w.alloc a).alloc b).alloc c).alloc d).heap[w.heap.size]? = some a ∧ ((((w.alloc a).alloc b).alloc c).alloc d).heap[w.heap.size + 1]? = some b ∧ ((((w.alloc a).alloc b).alloc c).alloc d).heap[w.heap.size + 1 + 1]? = some c ∧ ((((w.alloc a).alloc b).alloc c).alloc d).heap[w.heap.size + 1 + 1 + 1]? = some d ∧ ((((w.alloc a).alloc b).alloc c).alloc d).heap.size = w.heap.size + 1 + 1 + 1 + 1 := by
  have e1 : (w.alloc a).heap.size = w.heap.size + 1 := by simp
  have e2 : ((w.alloc a).alloc b).heap.size = w.heap.size + 1 + 1 := by simp
  have e3 : (((w.alloc a).alloc b).alloc c).heap.size = w.heap.size + 1 + 1 + 1 := by simp
  have h1 := blk_below (blk_new w a) (below_alloc (below_alloc (below_alloc (Below.refl _ (w.alloc a)) b) c) d)
  have h2 := blk_below (blk_new (w.alloc a) b) (below_alloc (below_alloc (Below.refl _ ((w.alloc a).alloc b)) c) d)
  have h3 := blk_below (blk_new ((w.alloc a).alloc b) c) (below_alloc (Below.refl _ (((w.alloc a).alloc b).alloc c)) d)
  have h4 := blk_new (((w.alloc a).alloc b).alloc c) d
  rw [e1] at h2; rw [e2] at h3; rw [e3] at h4
  exact ⟨h1, h2, h3, h4, by simp⟩
set_option maxHeartbeats 1600000 in
theorem turn_Turn_Step.calls (a0_0 : Int) (a0_1 : Int) (a1 : Int) (a2 : Bool) (a3 : Int) (r1 : Int) (r2 : Int) (w : World) (h : turn_Turn_Step.f a0_0 a0_1 a1 a2 a3 = some (r1, r2)) (LA0 : Laid w) :
    Calls Tryd.prog 8 #[.agg #[.int .i64 a0_0, .int .i64 a0_1], .int .u64 a1, .bool a2, .int .i64 a3] w fun e w' => e = .returned (.agg #[.int .i64 r1, .int .i64 r2]) ∧ Below w.heap.size w w' := by
  have LA := Aside0.mk LA0
  clear LA0
  unfold turn_Turn_Step.f at h
  obtain ⟨t, ht, h⟩ := Option.bind_eq_some_iff.1 h
  have HT := Aside0.mk ht
  have H := Aside0.mk h
  clear ht h
  go_enter Tryd.func8, Tryd.ntmps8
  go_wp2_with fail
  refine (order_Has.calls _ _ _ _ HT.out).mono ?_
  rintro e w1 ⟨rfl, hd⟩
  obtain ⟨hs, hblk⟩ : w1.heap.size = w.heap.size + 1 + 1 + 1 + 1 ∧ (w1.heap[w.heap.size]? = some (.cells #[.int .i64 a0_0, .int .i64 a0_1] 23) ∧ w1.heap[w.heap.size + 1]? = some (.cells #[.int .u64 a1] 24) ∧ w1.heap[w.heap.size + 1 + 1]? = some (.cells #[.int .i64 a3] 3) ∧ w1.heap[w.heap.size + 1 + 1 + 1]? = some (.cells #[.int .i64 0, .int .i64 0] 23)) := by
    obtain ⟨n1, rfl⟩ := hd
    have h := blk4 w (.cells #[.int .i64 a0_0, .int .i64 a0_1] 23) (.cells #[.int .u64 a1] 24) (.cells #[.int .i64 a3] 3) (.cells #[.int .i64 0, .int .i64 0] 23)
    exact ⟨h.2.2.2.2, h.1, h.2.1, h.2.2.1, h.2.2.2.1⟩
  have HB := Aside0.mk (show Below w.heap.size w w1 from (below_step (below_alloc (below_alloc (below_alloc (below_alloc (Below.refl _ _) _) _) _) _) hd.below))
  clear hd
  have q0 := (blk_cell hblk.1 0).trans (rfl : _ = some (Value.int .i64 a0_0))
  have q1 := (blk_cell hblk.1 1).trans (rfl : _ = some (Value.int .i64 a0_1))
  have q2 := (blk_cell hblk.2.1 0).trans (rfl : _ = some (Value.int .u64 a1))
  have q3 := (blk_cell hblk.2.2.1 0).trans (rfl : _ = some (Value.int .i64 a3))
  have q4 := (blk_cell hblk.2.2.2 0).trans (rfl : _ = some (Value.int .i64 0))
  have q5 := (blk_cell hblk.2.2.2 1).trans (rfl : _ = some (Value.int .i64 0))
  have u0 := blk_frozen hblk.1 0
  have u1 := blk_frozen hblk.1 1
  have u4 := blk_frozen hblk.2.2.2 0
  have u5 := blk_frozen hblk.2.2.2 1
  have l0 : w.heap.size < w1.heap.size := by omega
  have l1 : w.heap.size + 1 < w1.heap.size := by omega
  have l2 : w.heap.size + 1 + 1 < w1.heap.size := by omega
  have l3 : w.heap.size + 1 + 1 + 1 < w1.heap.size := by omega
  have HBLK := Aside0.mk hblk
  have HS := Aside0.mk hs
  clear hblk hs
  cases t
  · have hf : onF 100 a0_0 a1 a3 = some (r1, r2) := by have h := H.out; simpa using h
    have HF := Aside0.mk hf
    clear hf H
    go_wp2_with (go_at_call 15; refine (on_calls 100 _ _ _ _ _ _ _ _ _ (by go_simp) (by go_simp) (by go_simp) HF.out ?sideL).mono ?_; (case sideL => exact laid_below LA.out HB.out); rintro e w2 ⟨rfl, hb2⟩; have K3 := blk_below HBLK.out.2.2.2 hb2; have k0 := (blk_cell K3 0).trans (rfl : _ = some (Value.int .i64 0)); have k1 := (blk_cell K3 1).trans (rfl : _ = some (Value.int .i64 0)); have z0 := blk_frozen K3 0; have z1 := blk_frozen K3 1; have B2 := Aside0.mk (below_step HB.out hb2); clear hb2 K3)
    refine bodyPost_ret (v := .agg #[.int .i64 r1, .int .i64 r2]) (by simp [results, Tryd.results8, go_sem, k0, k1, z0, z1]) rfl ⟨rfl, ?_⟩
    repeat (first | exact B2.out | refine below_set ?_ (by omega) | refine Below.drew ?_)
  · cases a2
    · by_cases c : wrap64 (a0_1 - 1) < 1
      · have hf : onF 100 a0_0 a1 a3 = some (r1, r2) := by have h := H.out; simpa [c] using h
        have HF := Aside0.mk hf
        have c0 : decide (wrap64 (a0_1 - 1) < 1) = true := decide_eq_true c
        have c1 : (!wrap64 (a0_1 - 1) == 1) = true := by
          have h : (wrap64 (a0_1 - 1) == 1) = false := by simp; omega
          rw [h]; rfl
        clear hf H
        go_wp2_with (go_at_call 15; refine (on_calls 100 _ _ _ _ _ _ _ _ _ (by go_simp) (by go_simp) (by go_simp) HF.out ?sideL).mono ?_; (case sideL => exact laid_below LA.out (below_alloc (below_set HB.out (Nat.le_refl _)) _)); rintro e w2 ⟨rfl, hb2⟩; have K3 := blk_below (blk_below (blk_far HBLK.out.2.2.2 (show w.heap.size + 1 + 1 + 1 ≠ w.heap.size by omega) _) (below_alloc (Below.refl _ _) _)) hb2; have k0 := (blk_cell K3 0).trans (rfl : _ = some (Value.int .i64 0)); have k1 := (blk_cell K3 1).trans (rfl : _ = some (Value.int .i64 0)); have z0 := blk_frozen K3 0; have z1 := blk_frozen K3 1; have B2 := Aside0.mk (below_step (below_alloc (below_set HB.out (Nat.le_refl _)) _) hb2); clear hb2 K3)
        refine bodyPost_ret (v := .agg #[.int .i64 r1, .int .i64 r2]) (by simp [results, Tryd.results8, go_sem, k0, k1, z0, z1]) rfl ⟨rfl, ?_⟩
        repeat (first | exact B2.out | refine below_set ?_ (by omega) | refine Below.drew ?_)
      · have hf : some (a0_0, wrap64 (a0_1 - 1)) = some (r1, r2) := by have h := H.out; simpa [c] using h
        simp only [Option.some.injEq, Prod.mk.injEq] at hf
        obtain ⟨rfl, rfl⟩ := hf
        have c0 : decide (wrap64 (a0_1 - 1) < 1) = false := decide_eq_false c
        clear H
        go_wp2_with fail
        refine bodyPost_ret (v := .agg #[.int .i64 a0_0, .int .i64 (wrap64 (a0_1 - 1))]) (by simp [results, Tryd.results8, go_sem, q0, q1, q4, q5, u0, u1, u4, u5, l0, l1, l2, l3]) rfl ⟨rfl, ?_⟩
        repeat (first | exact HB.out | refine below_set ?_ (by omega) | refine Below.drew ?_ | refine below_alloc ?_ _)
    · have hf : some (a0_0, a0_1) = some (r1, r2) := by have h := H.out; simpa using h
      simp only [Option.some.injEq, Prod.mk.injEq] at hf
      obtain ⟨rfl, rfl⟩ := hf
      clear H
      go_wp2_with fail
      refine bodyPost_ret (v := .agg #[.int .i64 a0_0, .int .i64 a0_1]) (by simp [results, Tryd.results8, go_sem, q0, q1, q4, q5, u0, u1, u4, u5]) rfl ⟨rfl, ?_⟩
      repeat (first | exact HB.out | refine below_set ?_ (by omega) | refine Below.drew ?_)
end Go.Proofs.YtbaklgemdljmeaaDoor.X
