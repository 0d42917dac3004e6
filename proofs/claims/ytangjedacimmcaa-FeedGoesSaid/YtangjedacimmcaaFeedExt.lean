/- Contracts of feed.New and Known.Tell (a struct that holds an array). -/
import Derived.Test.YtangjedacimmcaaXx0
import Derived.Deep.RegionLaw
import Derived.Laws.CopyOwn
import Derived.Outline
namespace Go.Proofs.Ytangjedacimmcaa.X
open Go.RowKit Go.Proofs.YtangjedacimmcaaW.PrintWords Go.Proofs.YtangjedacimmcaaW.PrintLast Go.Proofs.YtangjedacimmcaaW.PrintMore
attribute [local go_sem] max2_int min2_int max_two min_two max_three min_three max_four min_four
set_option linter.unusedVariables false
set_option linter.unusedSimpArgs false

def lagOf (l : Int) : Int := mn (mx l 0) 8
def capOf (c : Int) : Int := mn (mx c 0) 1048576
theorem new_any (l : Int) (w : World) : Calls Try.prog 15 #[.int .i64 l] w fun e w' => e = .returned (.agg #[.int .i64 (lagOf l), .int .i64 0, .int .i64 0, .int .i64 0, .int .i64 0, .int .i64 0, .int .i64 0, .int .i64 0, .int .i64 0]) ∧ Below w.heap.size w w' := by
  obtain ⟨x, hx⟩ : ∃ x, (if l < 0 then 0 else l) = x := ⟨_, rfl⟩
  obtain ⟨y, hy⟩ : ∃ y, (if 8 < x then 8 else x) = y := ⟨_, rfl⟩
  have H := Aside0.mk (show lagOf l = y by rw [← hy, ← hx]; rfl)
  go_enter Try.func15, Try.ntmps15
  go_wp2
  refine bodyPost_ret (v := .agg #[.int .i64 y, .int .i64 0, .int .i64 0, .int .i64 0, .int .i64 0, .int .i64 0, .int .i64 0, .int .i64 0, .int .i64 0]) (by simp [results, Try.results15, go_sem]) rfl ⟨by rw [H.out], below_alloc (Below.refl _ _) _⟩

theorem step_copy_tell {P : Program} {ops : Array Oper} {o : Oper} {a : Act} {w : World} {K : Act → World → Prop} {Q : Exit → Act → World → Prop} {E : Prop} (hgd : o.guard = none) (d s : Operand) (T : TypeId)
    (ho : o.op = .call { callee := .builtin .copy, args := #[d, s], argTypes := #[T, T] }) (elem : TypeId) (hu : P.underlying T = some (.slice elem)) (hsz : (P.info? elem).map (·.size) = some 1)
    (g sCap : Nat) (hd : a.eval d = .slice (some ⟨g, 2, none⟩) 7 7) (hs : a.eval s = .slice (some ⟨g, 1, none⟩) 7 sCap)
    (c0 c1 c2 c3 c4 c5 c6 c7 c8 : Value) (t : TypeId) (hg : w.heap[g]? = some (.cells #[c0, c1, c2, c3, c4, c5, c6, c7, c8] t (0, 0)))
    (h1 : c1.oneCell' = true) (h2 : c2.oneCell' = true) (h3 : c3.oneCell' = true) (h4 : c4.oneCell' = true) (h5 : c5.oneCell' = true) (h6 : c6.oneCell' = true) (h7 : c7.oneCell' = true)
    (h : K (a.put o.dst (goInt 7)) (w.setRow g #[c0, c1, c1, c2, c3, c4, c5, c6, c7])) :
    if Region.wanted o (yielded ops a.tmps) = true then Oper.wp P o a w K Q else E := by
  have hw : Region.wanted o (yielded ops a.tmps) = true := by simp [Region.wanted, hgd]
  rw [if_pos hw]
  have hrun := run_copy_row (P := P) w T T o.type elem g 2 7 7 ⟨g, 1, none⟩ 7 sCap #[c0, c1, c2, c3, c4, c5, c6, c7, c8] t [c1, c2, c3, c4, c5, c6, c7] hu hsz hg rfl (by
    intro j v hj
    have hl : j < 7 := by
      have := List.getElem?_eq_some_iff.mp hj
      exact this.1
    have e : ∀ i, i < 9 → w.cell? ⟨g, i, none⟩ = #[c0, c1, c2, c3, c4, c5, c6, c7, c8][i]? := by
      intro i hi
      simp only [World.cell?, hg]
      rfl
    have ha : ((⟨g, 1, none⟩ : Addr).add j) = ⟨g, 1 + j, none⟩ := by simp [Addr.add]
    rw [ha, e _ (by omega), ← hj]
    match j, hl with
    | 0, _ => rfl
    | 1, _ => rfl
    | 2, _ => rfl
    | 3, _ => rfl
    | 4, _ => rfl
    | 5, _ => rfl
    | 6, _ => rfl) (by simp) (by
    intro v hv
    simp only [List.mem_cons, List.not_mem_nil, or_false] at hv
    rcases hv with rfl | rfl | rfl | rfl | rfl | rfl | rfl <;> assumption)
  unfold Oper.wp
  simp [execOp, ho, resolve, invoke, builtin, hd, hs, hrun, Result.andThen]
  exact h

theorem setRow_here (w : World) (c c' : Array Value) (t : TypeId) (Z : Obj) : (((w.alloc (.cells c t)).alloc Z).drew).setRow w.heap.size c' = ((w.alloc (.cells c' t)).alloc Z).drew := by
  simp only [World.setRow, World.alloc, World.drew]
  congr 1
  apply Array.ext_getElem?
  intro i
  rw [Array.getElem?_modify]
  by_cases h : w.heap.size = i
  · subst h
    simp [Array.getElem?_push]
  · have h' : ¬ i = w.heap.size := fun e => h e.symm
    simp [h, h', Array.getElem?_push]

set_option maxHeartbeats 800000 in
theorem tell0 (t0 t1 t2 t3 t4 t5 t6 t7 c y : Int) (hy : Aside0 (capOf c = y)) (w : World) :
    Calls Try.prog 16 #[.agg #[.int .i64 0, .int .i64 t0, .int .i64 t1, .int .i64 t2, .int .i64 t3, .int .i64 t4, .int .i64 t5, .int .i64 t6, .int .i64 t7], .int .i64 c] w fun e w' =>
      e = .returned (.tuple #[.agg #[.int .i64 0, .int .i64 y, .int .i64 t0, .int .i64 t1, .int .i64 t2, .int .i64 t3, .int .i64 t4, .int .i64 t5, .int .i64 t6], .int .i64 y]) ∧ Below w.heap.size w w' := by
  obtain ⟨x, hx⟩ : ∃ x, (if c < 0 then 0 else c) = x := ⟨_, rfl⟩
  obtain ⟨z, hz⟩ : ∃ z, (if 1048576 < x then 1048576 else x) = z := ⟨_, rfl⟩
  have H := Aside0.mk (show y = z by rw [← hz, ← hx, ← hy.out]; rfl)
  have hg := Aside0.mk (blk_alloc (blk_new w (Obj.cells #[.int .i64 0, .int .i64 t0, .int .i64 t1, .int .i64 t2, .int .i64 t3, .int .i64 t4, .int .i64 t5, .int .i64 t6, .int .i64 t7] 37)) (.cells #[.int .i64 0, .int .i64 0, .int .i64 0, .int .i64 0, .int .i64 0, .int .i64 0, .int .i64 0, .int .i64 0, .int .i64 0] 37))
  have hg2 := Aside0.mk (blk_new (w.alloc (.cells #[.int .i64 0, .int .i64 t0, .int .i64 t1, .int .i64 t2, .int .i64 t3, .int .i64 t4, .int .i64 t5, .int .i64 t6, .int .i64 t7] 37)) (Obj.cells #[.int .i64 0, .int .i64 0, .int .i64 0, .int .i64 0, .int .i64 0, .int .i64 0, .int .i64 0, .int .i64 0, .int .i64 0] 37))
  have hsz : (w.alloc (.cells #[.int .i64 0, .int .i64 t0, .int .i64 t1, .int .i64 t2, .int .i64 t3, .int .i64 t4, .int .i64 t5, .int .i64 t6, .int .i64 t7] 37)).heap.size = w.heap.size + 1 := by simp
  rw [hsz] at hg2
  clear hsz
  have hB := Aside0.mk (below_alloc (below_alloc (Below.refl w.heap.size w) (.cells #[.int .i64 0, .int .i64 t0, .int .i64 t1, .int .i64 t2, .int .i64 t3, .int .i64 t4, .int .i64 t5, .int .i64 t6, .int .i64 t7] 37)) (.cells #[.int .i64 0, .int .i64 0, .int .i64 0, .int .i64 0, .int .i64 0, .int .i64 0, .int .i64 0, .int .i64 0, .int .i64 0] 37))
  have hs := Aside0.mk (show w.heap.size + 1 < ((w.alloc (.cells #[.int .i64 0, .int .i64 t0, .int .i64 t1, .int .i64 t2, .int .i64 t3, .int .i64 t4, .int .i64 t5, .int .i64 t6, .int .i64 t7] 37)).alloc (.cells #[.int .i64 0, .int .i64 0, .int .i64 0, .int .i64 0, .int .i64 0, .int .i64 0, .int .i64 0, .int .i64 0, .int .i64 0] 37)).heap.size by simp)
  go_enter Try.func16, Try.ntmps16
  go_wp2
  go_region_law (refine step_copy_tell rfl (.tmp 21) (.tmp 23) 34 rfl 3 Try.underlying34 (by kernel_rfl) (w.heap.size) 8 rfl rfl (.int .i64 0) (.int .i64 t0) (.int .i64 t1) (.int .i64 t2) (.int .i64 t3) (.int .i64 t4) (.int .i64 t5) (.int .i64 t6) (.int .i64 t7) 37 (by exact hg.out) rfl rfl rfl rfl rfl rfl rfl ?_; rw [setRow_here])
  go_wp2
  refine bodyPost_ret (v := .tuple #[.agg #[.int .i64 0, .int .i64 z, .int .i64 t0, .int .i64 t1, .int .i64 t2, .int .i64 t3, .int .i64 t4, .int .i64 t5, .int .i64 t6], .int .i64 z]) (by simp [results, Try.results16, go_sem]) rfl ⟨by rw [H.out], ?_⟩
  repeat (first | exact Below.refl _ _ | refine below_step ?_ hB.out | refine below_set ?_ (by omega) | refine Below.drew ?_ | refine below_alloc ?_ _)
set_option maxHeartbeats 800000 in
theorem tell1 (t0 t1 t2 t3 t4 t5 t6 t7 c y : Int) (hy : Aside0 (capOf c = y)) (w : World) :
    Calls Try.prog 16 #[.agg #[.int .i64 1, .int .i64 t0, .int .i64 t1, .int .i64 t2, .int .i64 t3, .int .i64 t4, .int .i64 t5, .int .i64 t6, .int .i64 t7], .int .i64 c] w fun e w' =>
      e = .returned (.tuple #[.agg #[.int .i64 1, .int .i64 y, .int .i64 t0, .int .i64 t1, .int .i64 t2, .int .i64 t3, .int .i64 t4, .int .i64 t5, .int .i64 t6], .int .i64 t0]) ∧ Below w.heap.size w w' := by
  obtain ⟨x, hx⟩ : ∃ x, (if c < 0 then 0 else c) = x := ⟨_, rfl⟩
  obtain ⟨z, hz⟩ : ∃ z, (if 1048576 < x then 1048576 else x) = z := ⟨_, rfl⟩
  have H := Aside0.mk (show y = z by rw [← hz, ← hx, ← hy.out]; rfl)
  have hg := Aside0.mk (blk_alloc (blk_new w (Obj.cells #[.int .i64 1, .int .i64 t0, .int .i64 t1, .int .i64 t2, .int .i64 t3, .int .i64 t4, .int .i64 t5, .int .i64 t6, .int .i64 t7] 37)) (.cells #[.int .i64 0, .int .i64 0, .int .i64 0, .int .i64 0, .int .i64 0, .int .i64 0, .int .i64 0, .int .i64 0, .int .i64 0] 37))
  have hg2 := Aside0.mk (blk_new (w.alloc (.cells #[.int .i64 1, .int .i64 t0, .int .i64 t1, .int .i64 t2, .int .i64 t3, .int .i64 t4, .int .i64 t5, .int .i64 t6, .int .i64 t7] 37)) (Obj.cells #[.int .i64 0, .int .i64 0, .int .i64 0, .int .i64 0, .int .i64 0, .int .i64 0, .int .i64 0, .int .i64 0, .int .i64 0] 37))
  have hsz : (w.alloc (.cells #[.int .i64 1, .int .i64 t0, .int .i64 t1, .int .i64 t2, .int .i64 t3, .int .i64 t4, .int .i64 t5, .int .i64 t6, .int .i64 t7] 37)).heap.size = w.heap.size + 1 := by simp
  rw [hsz] at hg2
  clear hsz
  have hB := Aside0.mk (below_alloc (below_alloc (Below.refl w.heap.size w) (.cells #[.int .i64 1, .int .i64 t0, .int .i64 t1, .int .i64 t2, .int .i64 t3, .int .i64 t4, .int .i64 t5, .int .i64 t6, .int .i64 t7] 37)) (.cells #[.int .i64 0, .int .i64 0, .int .i64 0, .int .i64 0, .int .i64 0, .int .i64 0, .int .i64 0, .int .i64 0, .int .i64 0] 37))
  have hs := Aside0.mk (show w.heap.size + 1 < ((w.alloc (.cells #[.int .i64 1, .int .i64 t0, .int .i64 t1, .int .i64 t2, .int .i64 t3, .int .i64 t4, .int .i64 t5, .int .i64 t6, .int .i64 t7] 37)).alloc (.cells #[.int .i64 0, .int .i64 0, .int .i64 0, .int .i64 0, .int .i64 0, .int .i64 0, .int .i64 0, .int .i64 0, .int .i64 0] 37)).heap.size by simp)
  go_enter Try.func16, Try.ntmps16
  go_wp2
  go_region_law (refine step_copy_tell rfl (.tmp 21) (.tmp 23) 34 rfl 3 Try.underlying34 (by kernel_rfl) (w.heap.size) 8 rfl rfl (.int .i64 1) (.int .i64 t0) (.int .i64 t1) (.int .i64 t2) (.int .i64 t3) (.int .i64 t4) (.int .i64 t5) (.int .i64 t6) (.int .i64 t7) 37 (by exact hg.out) rfl rfl rfl rfl rfl rfl rfl ?_; rw [setRow_here])
  go_wp2
  refine bodyPost_ret (v := .tuple #[.agg #[.int .i64 1, .int .i64 z, .int .i64 t0, .int .i64 t1, .int .i64 t2, .int .i64 t3, .int .i64 t4, .int .i64 t5, .int .i64 t6], .int .i64 t0]) (by simp [results, Try.results16, go_sem]) rfl ⟨by rw [H.out], ?_⟩
  repeat (first | exact Below.refl _ _ | refine below_step ?_ hB.out | refine below_set ?_ (by omega) | refine Below.drew ?_ | refine below_alloc ?_ _)
set_option maxHeartbeats 800000 in
theorem tell2 (t0 t1 t2 t3 t4 t5 t6 t7 c y : Int) (hy : Aside0 (capOf c = y)) (w : World) :
    Calls Try.prog 16 #[.agg #[.int .i64 2, .int .i64 t0, .int .i64 t1, .int .i64 t2, .int .i64 t3, .int .i64 t4, .int .i64 t5, .int .i64 t6, .int .i64 t7], .int .i64 c] w fun e w' =>
      e = .returned (.tuple #[.agg #[.int .i64 2, .int .i64 y, .int .i64 t0, .int .i64 t1, .int .i64 t2, .int .i64 t3, .int .i64 t4, .int .i64 t5, .int .i64 t6], .int .i64 t1]) ∧ Below w.heap.size w w' := by
  obtain ⟨x, hx⟩ : ∃ x, (if c < 0 then 0 else c) = x := ⟨_, rfl⟩
  obtain ⟨z, hz⟩ : ∃ z, (if 1048576 < x then 1048576 else x) = z := ⟨_, rfl⟩
  have H := Aside0.mk (show y = z by rw [← hz, ← hx, ← hy.out]; rfl)
  have hg := Aside0.mk (blk_alloc (blk_new w (Obj.cells #[.int .i64 2, .int .i64 t0, .int .i64 t1, .int .i64 t2, .int .i64 t3, .int .i64 t4, .int .i64 t5, .int .i64 t6, .int .i64 t7] 37)) (.cells #[.int .i64 0, .int .i64 0, .int .i64 0, .int .i64 0, .int .i64 0, .int .i64 0, .int .i64 0, .int .i64 0, .int .i64 0] 37))
  have hg2 := Aside0.mk (blk_new (w.alloc (.cells #[.int .i64 2, .int .i64 t0, .int .i64 t1, .int .i64 t2, .int .i64 t3, .int .i64 t4, .int .i64 t5, .int .i64 t6, .int .i64 t7] 37)) (Obj.cells #[.int .i64 0, .int .i64 0, .int .i64 0, .int .i64 0, .int .i64 0, .int .i64 0, .int .i64 0, .int .i64 0, .int .i64 0] 37))
  have hsz : (w.alloc (.cells #[.int .i64 2, .int .i64 t0, .int .i64 t1, .int .i64 t2, .int .i64 t3, .int .i64 t4, .int .i64 t5, .int .i64 t6, .int .i64 t7] 37)).heap.size = w.heap.size + 1 := by simp
  rw [hsz] at hg2
  clear hsz
  have hB := Aside0.mk (below_alloc (below_alloc (Below.refl w.heap.size w) (.cells #[.int .i64 2, .int .i64 t0, .int .i64 t1, .int .i64 t2, .int .i64 t3, .int .i64 t4, .int .i64 t5, .int .i64 t6, .int .i64 t7] 37)) (.cells #[.int .i64 0, .int .i64 0, .int .i64 0, .int .i64 0, .int .i64 0, .int .i64 0, .int .i64 0, .int .i64 0, .int .i64 0] 37))
  have hs := Aside0.mk (show w.heap.size + 1 < ((w.alloc (.cells #[.int .i64 2, .int .i64 t0, .int .i64 t1, .int .i64 t2, .int .i64 t3, .int .i64 t4, .int .i64 t5, .int .i64 t6, .int .i64 t7] 37)).alloc (.cells #[.int .i64 0, .int .i64 0, .int .i64 0, .int .i64 0, .int .i64 0, .int .i64 0, .int .i64 0, .int .i64 0, .int .i64 0] 37)).heap.size by simp)
  go_enter Try.func16, Try.ntmps16
  go_wp2
  go_region_law (refine step_copy_tell rfl (.tmp 21) (.tmp 23) 34 rfl 3 Try.underlying34 (by kernel_rfl) (w.heap.size) 8 rfl rfl (.int .i64 2) (.int .i64 t0) (.int .i64 t1) (.int .i64 t2) (.int .i64 t3) (.int .i64 t4) (.int .i64 t5) (.int .i64 t6) (.int .i64 t7) 37 (by exact hg.out) rfl rfl rfl rfl rfl rfl rfl ?_; rw [setRow_here])
  go_wp2
  refine bodyPost_ret (v := .tuple #[.agg #[.int .i64 2, .int .i64 z, .int .i64 t0, .int .i64 t1, .int .i64 t2, .int .i64 t3, .int .i64 t4, .int .i64 t5, .int .i64 t6], .int .i64 t1]) (by simp [results, Try.results16, go_sem]) rfl ⟨by rw [H.out], ?_⟩
  repeat (first | exact Below.refl _ _ | refine below_step ?_ hB.out | refine below_set ?_ (by omega) | refine Below.drew ?_ | refine below_alloc ?_ _)
set_option maxHeartbeats 800000 in
theorem tell3 (t0 t1 t2 t3 t4 t5 t6 t7 c y : Int) (hy : Aside0 (capOf c = y)) (w : World) :
    Calls Try.prog 16 #[.agg #[.int .i64 3, .int .i64 t0, .int .i64 t1, .int .i64 t2, .int .i64 t3, .int .i64 t4, .int .i64 t5, .int .i64 t6, .int .i64 t7], .int .i64 c] w fun e w' =>
      e = .returned (.tuple #[.agg #[.int .i64 3, .int .i64 y, .int .i64 t0, .int .i64 t1, .int .i64 t2, .int .i64 t3, .int .i64 t4, .int .i64 t5, .int .i64 t6], .int .i64 t2]) ∧ Below w.heap.size w w' := by
  obtain ⟨x, hx⟩ : ∃ x, (if c < 0 then 0 else c) = x := ⟨_, rfl⟩
  obtain ⟨z, hz⟩ : ∃ z, (if 1048576 < x then 1048576 else x) = z := ⟨_, rfl⟩
  have H := Aside0.mk (show y = z by rw [← hz, ← hx, ← hy.out]; rfl)
  have hg := Aside0.mk (blk_alloc (blk_new w (Obj.cells #[.int .i64 3, .int .i64 t0, .int .i64 t1, .int .i64 t2, .int .i64 t3, .int .i64 t4, .int .i64 t5, .int .i64 t6, .int .i64 t7] 37)) (.cells #[.int .i64 0, .int .i64 0, .int .i64 0, .int .i64 0, .int .i64 0, .int .i64 0, .int .i64 0, .int .i64 0, .int .i64 0] 37))
  have hg2 := Aside0.mk (blk_new (w.alloc (.cells #[.int .i64 3, .int .i64 t0, .int .i64 t1, .int .i64 t2, .int .i64 t3, .int .i64 t4, .int .i64 t5, .int .i64 t6, .int .i64 t7] 37)) (Obj.cells #[.int .i64 0, .int .i64 0, .int .i64 0, .int .i64 0, .int .i64 0, .int .i64 0, .int .i64 0, .int .i64 0, .int .i64 0] 37))
  have hsz : (w.alloc (.cells #[.int .i64 3, .int .i64 t0, .int .i64 t1, .int .i64 t2, .int .i64 t3, .int .i64 t4, .int .i64 t5, .int .i64 t6, .int .i64 t7] 37)).heap.size = w.heap.size + 1 := by simp
  rw [hsz] at hg2
  clear hsz
  have hB := Aside0.mk (below_alloc (below_alloc (Below.refl w.heap.size w) (.cells #[.int .i64 3, .int .i64 t0, .int .i64 t1, .int .i64 t2, .int .i64 t3, .int .i64 t4, .int .i64 t5, .int .i64 t6, .int .i64 t7] 37)) (.cells #[.int .i64 0, .int .i64 0, .int .i64 0, .int .i64 0, .int .i64 0, .int .i64 0, .int .i64 0, .int .i64 0, .int .i64 0] 37))
  have hs := Aside0.mk (show w.heap.size + 1 < ((w.alloc (.cells #[.int .i64 3, .int .i64 t0, .int .i64 t1, .int .i64 t2, .int .i64 t3, .int .i64 t4, .int .i64 t5, .int .i64 t6, .int .i64 t7] 37)).alloc (.cells #[.int .i64 0, .int .i64 0, .int .i64 0, .int .i64 0, .int .i64 0, .int .i64 0, .int .i64 0, .int .i64 0, .int .i64 0] 37)).heap.size by simp)
  go_enter Try.func16, Try.ntmps16
  go_wp2
  go_region_law (refine step_copy_tell rfl (.tmp 21) (.tmp 23) 34 rfl 3 Try.underlying34 (by kernel_rfl) (w.heap.size) 8 rfl rfl (.int .i64 3) (.int .i64 t0) (.int .i64 t1) (.int .i64 t2) (.int .i64 t3) (.int .i64 t4) (.int .i64 t5) (.int .i64 t6) (.int .i64 t7) 37 (by exact hg.out) rfl rfl rfl rfl rfl rfl rfl ?_; rw [setRow_here])
  go_wp2
  refine bodyPost_ret (v := .tuple #[.agg #[.int .i64 3, .int .i64 z, .int .i64 t0, .int .i64 t1, .int .i64 t2, .int .i64 t3, .int .i64 t4, .int .i64 t5, .int .i64 t6], .int .i64 t2]) (by simp [results, Try.results16, go_sem]) rfl ⟨by rw [H.out], ?_⟩
  repeat (first | exact Below.refl _ _ | refine below_step ?_ hB.out | refine below_set ?_ (by omega) | refine Below.drew ?_ | refine below_alloc ?_ _)
set_option maxHeartbeats 800000 in
theorem tell4 (t0 t1 t2 t3 t4 t5 t6 t7 c y : Int) (hy : Aside0 (capOf c = y)) (w : World) :
    Calls Try.prog 16 #[.agg #[.int .i64 4, .int .i64 t0, .int .i64 t1, .int .i64 t2, .int .i64 t3, .int .i64 t4, .int .i64 t5, .int .i64 t6, .int .i64 t7], .int .i64 c] w fun e w' =>
      e = .returned (.tuple #[.agg #[.int .i64 4, .int .i64 y, .int .i64 t0, .int .i64 t1, .int .i64 t2, .int .i64 t3, .int .i64 t4, .int .i64 t5, .int .i64 t6], .int .i64 t3]) ∧ Below w.heap.size w w' := by
  obtain ⟨x, hx⟩ : ∃ x, (if c < 0 then 0 else c) = x := ⟨_, rfl⟩
  obtain ⟨z, hz⟩ : ∃ z, (if 1048576 < x then 1048576 else x) = z := ⟨_, rfl⟩
  have H := Aside0.mk (show y = z by rw [← hz, ← hx, ← hy.out]; rfl)
  have hg := Aside0.mk (blk_alloc (blk_new w (Obj.cells #[.int .i64 4, .int .i64 t0, .int .i64 t1, .int .i64 t2, .int .i64 t3, .int .i64 t4, .int .i64 t5, .int .i64 t6, .int .i64 t7] 37)) (.cells #[.int .i64 0, .int .i64 0, .int .i64 0, .int .i64 0, .int .i64 0, .int .i64 0, .int .i64 0, .int .i64 0, .int .i64 0] 37))
  have hg2 := Aside0.mk (blk_new (w.alloc (.cells #[.int .i64 4, .int .i64 t0, .int .i64 t1, .int .i64 t2, .int .i64 t3, .int .i64 t4, .int .i64 t5, .int .i64 t6, .int .i64 t7] 37)) (Obj.cells #[.int .i64 0, .int .i64 0, .int .i64 0, .int .i64 0, .int .i64 0, .int .i64 0, .int .i64 0, .int .i64 0, .int .i64 0] 37))
  have hsz : (w.alloc (.cells #[.int .i64 4, .int .i64 t0, .int .i64 t1, .int .i64 t2, .int .i64 t3, .int .i64 t4, .int .i64 t5, .int .i64 t6, .int .i64 t7] 37)).heap.size = w.heap.size + 1 := by simp
  rw [hsz] at hg2
  clear hsz
  have hB := Aside0.mk (below_alloc (below_alloc (Below.refl w.heap.size w) (.cells #[.int .i64 4, .int .i64 t0, .int .i64 t1, .int .i64 t2, .int .i64 t3, .int .i64 t4, .int .i64 t5, .int .i64 t6, .int .i64 t7] 37)) (.cells #[.int .i64 0, .int .i64 0, .int .i64 0, .int .i64 0, .int .i64 0, .int .i64 0, .int .i64 0, .int .i64 0, .int .i64 0] 37))
  have hs := Aside0.mk (show w.heap.size + 1 < ((w.alloc (.cells #[.int .i64 4, .int .i64 t0, .int .i64 t1, .int .i64 t2, .int .i64 t3, .int .i64 t4, .int .i64 t5, .int .i64 t6, .int .i64 t7] 37)).alloc (.cells #[.int .i64 0, .int .i64 0, .int .i64 0, .int .i64 0, .int .i64 0, .int .i64 0, .int .i64 0, .int .i64 0, .int .i64 0] 37)).heap.size by simp)
  go_enter Try.func16, Try.ntmps16
  go_wp2
  go_region_law (refine step_copy_tell rfl (.tmp 21) (.tmp 23) 34 rfl 3 Try.underlying34 (by kernel_rfl) (w.heap.size) 8 rfl rfl (.int .i64 4) (.int .i64 t0) (.int .i64 t1) (.int .i64 t2) (.int .i64 t3) (.int .i64 t4) (.int .i64 t5) (.int .i64 t6) (.int .i64 t7) 37 (by exact hg.out) rfl rfl rfl rfl rfl rfl rfl ?_; rw [setRow_here])
  go_wp2
  refine bodyPost_ret (v := .tuple #[.agg #[.int .i64 4, .int .i64 z, .int .i64 t0, .int .i64 t1, .int .i64 t2, .int .i64 t3, .int .i64 t4, .int .i64 t5, .int .i64 t6], .int .i64 t3]) (by simp [results, Try.results16, go_sem]) rfl ⟨by rw [H.out], ?_⟩
  repeat (first | exact Below.refl _ _ | refine below_step ?_ hB.out | refine below_set ?_ (by omega) | refine Below.drew ?_ | refine below_alloc ?_ _)
set_option maxHeartbeats 800000 in
theorem tell5 (t0 t1 t2 t3 t4 t5 t6 t7 c y : Int) (hy : Aside0 (capOf c = y)) (w : World) :
    Calls Try.prog 16 #[.agg #[.int .i64 5, .int .i64 t0, .int .i64 t1, .int .i64 t2, .int .i64 t3, .int .i64 t4, .int .i64 t5, .int .i64 t6, .int .i64 t7], .int .i64 c] w fun e w' =>
      e = .returned (.tuple #[.agg #[.int .i64 5, .int .i64 y, .int .i64 t0, .int .i64 t1, .int .i64 t2, .int .i64 t3, .int .i64 t4, .int .i64 t5, .int .i64 t6], .int .i64 t4]) ∧ Below w.heap.size w w' := by
  obtain ⟨x, hx⟩ : ∃ x, (if c < 0 then 0 else c) = x := ⟨_, rfl⟩
  obtain ⟨z, hz⟩ : ∃ z, (if 1048576 < x then 1048576 else x) = z := ⟨_, rfl⟩
  have H := Aside0.mk (show y = z by rw [← hz, ← hx, ← hy.out]; rfl)
  have hg := Aside0.mk (blk_alloc (blk_new w (Obj.cells #[.int .i64 5, .int .i64 t0, .int .i64 t1, .int .i64 t2, .int .i64 t3, .int .i64 t4, .int .i64 t5, .int .i64 t6, .int .i64 t7] 37)) (.cells #[.int .i64 0, .int .i64 0, .int .i64 0, .int .i64 0, .int .i64 0, .int .i64 0, .int .i64 0, .int .i64 0, .int .i64 0] 37))
  have hg2 := Aside0.mk (blk_new (w.alloc (.cells #[.int .i64 5, .int .i64 t0, .int .i64 t1, .int .i64 t2, .int .i64 t3, .int .i64 t4, .int .i64 t5, .int .i64 t6, .int .i64 t7] 37)) (Obj.cells #[.int .i64 0, .int .i64 0, .int .i64 0, .int .i64 0, .int .i64 0, .int .i64 0, .int .i64 0, .int .i64 0, .int .i64 0] 37))
  have hsz : (w.alloc (.cells #[.int .i64 5, .int .i64 t0, .int .i64 t1, .int .i64 t2, .int .i64 t3, .int .i64 t4, .int .i64 t5, .int .i64 t6, .int .i64 t7] 37)).heap.size = w.heap.size + 1 := by simp
  rw [hsz] at hg2
  clear hsz
  have hB := Aside0.mk (below_alloc (below_alloc (Below.refl w.heap.size w) (.cells #[.int .i64 5, .int .i64 t0, .int .i64 t1, .int .i64 t2, .int .i64 t3, .int .i64 t4, .int .i64 t5, .int .i64 t6, .int .i64 t7] 37)) (.cells #[.int .i64 0, .int .i64 0, .int .i64 0, .int .i64 0, .int .i64 0, .int .i64 0, .int .i64 0, .int .i64 0, .int .i64 0] 37))
  have hs := Aside0.mk (show w.heap.size + 1 < ((w.alloc (.cells #[.int .i64 5, .int .i64 t0, .int .i64 t1, .int .i64 t2, .int .i64 t3, .int .i64 t4, .int .i64 t5, .int .i64 t6, .int .i64 t7] 37)).alloc (.cells #[.int .i64 0, .int .i64 0, .int .i64 0, .int .i64 0, .int .i64 0, .int .i64 0, .int .i64 0, .int .i64 0, .int .i64 0] 37)).heap.size by simp)
  go_enter Try.func16, Try.ntmps16
  go_wp2
  go_region_law (refine step_copy_tell rfl (.tmp 21) (.tmp 23) 34 rfl 3 Try.underlying34 (by kernel_rfl) (w.heap.size) 8 rfl rfl (.int .i64 5) (.int .i64 t0) (.int .i64 t1) (.int .i64 t2) (.int .i64 t3) (.int .i64 t4) (.int .i64 t5) (.int .i64 t6) (.int .i64 t7) 37 (by exact hg.out) rfl rfl rfl rfl rfl rfl rfl ?_; rw [setRow_here])
  go_wp2
  refine bodyPost_ret (v := .tuple #[.agg #[.int .i64 5, .int .i64 z, .int .i64 t0, .int .i64 t1, .int .i64 t2, .int .i64 t3, .int .i64 t4, .int .i64 t5, .int .i64 t6], .int .i64 t4]) (by simp [results, Try.results16, go_sem]) rfl ⟨by rw [H.out], ?_⟩
  repeat (first | exact Below.refl _ _ | refine below_step ?_ hB.out | refine below_set ?_ (by omega) | refine Below.drew ?_ | refine below_alloc ?_ _)
set_option maxHeartbeats 800000 in
theorem tell6 (t0 t1 t2 t3 t4 t5 t6 t7 c y : Int) (hy : Aside0 (capOf c = y)) (w : World) :
    Calls Try.prog 16 #[.agg #[.int .i64 6, .int .i64 t0, .int .i64 t1, .int .i64 t2, .int .i64 t3, .int .i64 t4, .int .i64 t5, .int .i64 t6, .int .i64 t7], .int .i64 c] w fun e w' =>
      e = .returned (.tuple #[.agg #[.int .i64 6, .int .i64 y, .int .i64 t0, .int .i64 t1, .int .i64 t2, .int .i64 t3, .int .i64 t4, .int .i64 t5, .int .i64 t6], .int .i64 t5]) ∧ Below w.heap.size w w' := by
  obtain ⟨x, hx⟩ : ∃ x, (if c < 0 then 0 else c) = x := ⟨_, rfl⟩
  obtain ⟨z, hz⟩ : ∃ z, (if 1048576 < x then 1048576 else x) = z := ⟨_, rfl⟩
  have H := Aside0.mk (show y = z by rw [← hz, ← hx, ← hy.out]; rfl)
  have hg := Aside0.mk (blk_alloc (blk_new w (Obj.cells #[.int .i64 6, .int .i64 t0, .int .i64 t1, .int .i64 t2, .int .i64 t3, .int .i64 t4, .int .i64 t5, .int .i64 t6, .int .i64 t7] 37)) (.cells #[.int .i64 0, .int .i64 0, .int .i64 0, .int .i64 0, .int .i64 0, .int .i64 0, .int .i64 0, .int .i64 0, .int .i64 0] 37))
  have hg2 := Aside0.mk (blk_new (w.alloc (.cells #[.int .i64 6, .int .i64 t0, .int .i64 t1, .int .i64 t2, .int .i64 t3, .int .i64 t4, .int .i64 t5, .int .i64 t6, .int .i64 t7] 37)) (Obj.cells #[.int .i64 0, .int .i64 0, .int .i64 0, .int .i64 0, .int .i64 0, .int .i64 0, .int .i64 0, .int .i64 0, .int .i64 0] 37))
  have hsz : (w.alloc (.cells #[.int .i64 6, .int .i64 t0, .int .i64 t1, .int .i64 t2, .int .i64 t3, .int .i64 t4, .int .i64 t5, .int .i64 t6, .int .i64 t7] 37)).heap.size = w.heap.size + 1 := by simp
  rw [hsz] at hg2
  clear hsz
  have hB := Aside0.mk (below_alloc (below_alloc (Below.refl w.heap.size w) (.cells #[.int .i64 6, .int .i64 t0, .int .i64 t1, .int .i64 t2, .int .i64 t3, .int .i64 t4, .int .i64 t5, .int .i64 t6, .int .i64 t7] 37)) (.cells #[.int .i64 0, .int .i64 0, .int .i64 0, .int .i64 0, .int .i64 0, .int .i64 0, .int .i64 0, .int .i64 0, .int .i64 0] 37))
  have hs := Aside0.mk (show w.heap.size + 1 < ((w.alloc (.cells #[.int .i64 6, .int .i64 t0, .int .i64 t1, .int .i64 t2, .int .i64 t3, .int .i64 t4, .int .i64 t5, .int .i64 t6, .int .i64 t7] 37)).alloc (.cells #[.int .i64 0, .int .i64 0, .int .i64 0, .int .i64 0, .int .i64 0, .int .i64 0, .int .i64 0, .int .i64 0, .int .i64 0] 37)).heap.size by simp)
  go_enter Try.func16, Try.ntmps16
  go_wp2
  go_region_law (refine step_copy_tell rfl (.tmp 21) (.tmp 23) 34 rfl 3 Try.underlying34 (by kernel_rfl) (w.heap.size) 8 rfl rfl (.int .i64 6) (.int .i64 t0) (.int .i64 t1) (.int .i64 t2) (.int .i64 t3) (.int .i64 t4) (.int .i64 t5) (.int .i64 t6) (.int .i64 t7) 37 (by exact hg.out) rfl rfl rfl rfl rfl rfl rfl ?_; rw [setRow_here])
  go_wp2
  refine bodyPost_ret (v := .tuple #[.agg #[.int .i64 6, .int .i64 z, .int .i64 t0, .int .i64 t1, .int .i64 t2, .int .i64 t3, .int .i64 t4, .int .i64 t5, .int .i64 t6], .int .i64 t5]) (by simp [results, Try.results16, go_sem]) rfl ⟨by rw [H.out], ?_⟩
  repeat (first | exact Below.refl _ _ | refine below_step ?_ hB.out | refine below_set ?_ (by omega) | refine Below.drew ?_ | refine below_alloc ?_ _)
set_option maxHeartbeats 800000 in
theorem tell7 (t0 t1 t2 t3 t4 t5 t6 t7 c y : Int) (hy : Aside0 (capOf c = y)) (w : World) :
    Calls Try.prog 16 #[.agg #[.int .i64 7, .int .i64 t0, .int .i64 t1, .int .i64 t2, .int .i64 t3, .int .i64 t4, .int .i64 t5, .int .i64 t6, .int .i64 t7], .int .i64 c] w fun e w' =>
      e = .returned (.tuple #[.agg #[.int .i64 7, .int .i64 y, .int .i64 t0, .int .i64 t1, .int .i64 t2, .int .i64 t3, .int .i64 t4, .int .i64 t5, .int .i64 t6], .int .i64 t6]) ∧ Below w.heap.size w w' := by
  obtain ⟨x, hx⟩ : ∃ x, (if c < 0 then 0 else c) = x := ⟨_, rfl⟩
  obtain ⟨z, hz⟩ : ∃ z, (if 1048576 < x then 1048576 else x) = z := ⟨_, rfl⟩
  have H := Aside0.mk (show y = z by rw [← hz, ← hx, ← hy.out]; rfl)
  have hg := Aside0.mk (blk_alloc (blk_new w (Obj.cells #[.int .i64 7, .int .i64 t0, .int .i64 t1, .int .i64 t2, .int .i64 t3, .int .i64 t4, .int .i64 t5, .int .i64 t6, .int .i64 t7] 37)) (.cells #[.int .i64 0, .int .i64 0, .int .i64 0, .int .i64 0, .int .i64 0, .int .i64 0, .int .i64 0, .int .i64 0, .int .i64 0] 37))
  have hg2 := Aside0.mk (blk_new (w.alloc (.cells #[.int .i64 7, .int .i64 t0, .int .i64 t1, .int .i64 t2, .int .i64 t3, .int .i64 t4, .int .i64 t5, .int .i64 t6, .int .i64 t7] 37)) (Obj.cells #[.int .i64 0, .int .i64 0, .int .i64 0, .int .i64 0, .int .i64 0, .int .i64 0, .int .i64 0, .int .i64 0, .int .i64 0] 37))
  have hsz : (w.alloc (.cells #[.int .i64 7, .int .i64 t0, .int .i64 t1, .int .i64 t2, .int .i64 t3, .int .i64 t4, .int .i64 t5, .int .i64 t6, .int .i64 t7] 37)).heap.size = w.heap.size + 1 := by simp
  rw [hsz] at hg2
  clear hsz
  have hB := Aside0.mk (below_alloc (below_alloc (Below.refl w.heap.size w) (.cells #[.int .i64 7, .int .i64 t0, .int .i64 t1, .int .i64 t2, .int .i64 t3, .int .i64 t4, .int .i64 t5, .int .i64 t6, .int .i64 t7] 37)) (.cells #[.int .i64 0, .int .i64 0, .int .i64 0, .int .i64 0, .int .i64 0, .int .i64 0, .int .i64 0, .int .i64 0, .int .i64 0] 37))
  have hs := Aside0.mk (show w.heap.size + 1 < ((w.alloc (.cells #[.int .i64 7, .int .i64 t0, .int .i64 t1, .int .i64 t2, .int .i64 t3, .int .i64 t4, .int .i64 t5, .int .i64 t6, .int .i64 t7] 37)).alloc (.cells #[.int .i64 0, .int .i64 0, .int .i64 0, .int .i64 0, .int .i64 0, .int .i64 0, .int .i64 0, .int .i64 0, .int .i64 0] 37)).heap.size by simp)
  go_enter Try.func16, Try.ntmps16
  go_wp2
  go_region_law (refine step_copy_tell rfl (.tmp 21) (.tmp 23) 34 rfl 3 Try.underlying34 (by kernel_rfl) (w.heap.size) 8 rfl rfl (.int .i64 7) (.int .i64 t0) (.int .i64 t1) (.int .i64 t2) (.int .i64 t3) (.int .i64 t4) (.int .i64 t5) (.int .i64 t6) (.int .i64 t7) 37 (by exact hg.out) rfl rfl rfl rfl rfl rfl rfl ?_; rw [setRow_here])
  go_wp2
  refine bodyPost_ret (v := .tuple #[.agg #[.int .i64 7, .int .i64 z, .int .i64 t0, .int .i64 t1, .int .i64 t2, .int .i64 t3, .int .i64 t4, .int .i64 t5, .int .i64 t6], .int .i64 t6]) (by simp [results, Try.results16, go_sem]) rfl ⟨by rw [H.out], ?_⟩
  repeat (first | exact Below.refl _ _ | refine below_step ?_ hB.out | refine below_set ?_ (by omega) | refine Below.drew ?_ | refine below_alloc ?_ _)
set_option maxHeartbeats 800000 in
theorem tell8 (t0 t1 t2 t3 t4 t5 t6 t7 c y : Int) (hy : Aside0 (capOf c = y)) (w : World) :
    Calls Try.prog 16 #[.agg #[.int .i64 8, .int .i64 t0, .int .i64 t1, .int .i64 t2, .int .i64 t3, .int .i64 t4, .int .i64 t5, .int .i64 t6, .int .i64 t7], .int .i64 c] w fun e w' =>
      e = .returned (.tuple #[.agg #[.int .i64 8, .int .i64 y, .int .i64 t0, .int .i64 t1, .int .i64 t2, .int .i64 t3, .int .i64 t4, .int .i64 t5, .int .i64 t6], .int .i64 t7]) ∧ Below w.heap.size w w' := by
  obtain ⟨x, hx⟩ : ∃ x, (if c < 0 then 0 else c) = x := ⟨_, rfl⟩
  obtain ⟨z, hz⟩ : ∃ z, (if 1048576 < x then 1048576 else x) = z := ⟨_, rfl⟩
  have H := Aside0.mk (show y = z by rw [← hz, ← hx, ← hy.out]; rfl)
  have hg := Aside0.mk (blk_alloc (blk_new w (Obj.cells #[.int .i64 8, .int .i64 t0, .int .i64 t1, .int .i64 t2, .int .i64 t3, .int .i64 t4, .int .i64 t5, .int .i64 t6, .int .i64 t7] 37)) (.cells #[.int .i64 0, .int .i64 0, .int .i64 0, .int .i64 0, .int .i64 0, .int .i64 0, .int .i64 0, .int .i64 0, .int .i64 0] 37))
  have hg2 := Aside0.mk (blk_new (w.alloc (.cells #[.int .i64 8, .int .i64 t0, .int .i64 t1, .int .i64 t2, .int .i64 t3, .int .i64 t4, .int .i64 t5, .int .i64 t6, .int .i64 t7] 37)) (Obj.cells #[.int .i64 0, .int .i64 0, .int .i64 0, .int .i64 0, .int .i64 0, .int .i64 0, .int .i64 0, .int .i64 0, .int .i64 0] 37))
  have hsz : (w.alloc (.cells #[.int .i64 8, .int .i64 t0, .int .i64 t1, .int .i64 t2, .int .i64 t3, .int .i64 t4, .int .i64 t5, .int .i64 t6, .int .i64 t7] 37)).heap.size = w.heap.size + 1 := by simp
  rw [hsz] at hg2
  clear hsz
  have hB := Aside0.mk (below_alloc (below_alloc (Below.refl w.heap.size w) (.cells #[.int .i64 8, .int .i64 t0, .int .i64 t1, .int .i64 t2, .int .i64 t3, .int .i64 t4, .int .i64 t5, .int .i64 t6, .int .i64 t7] 37)) (.cells #[.int .i64 0, .int .i64 0, .int .i64 0, .int .i64 0, .int .i64 0, .int .i64 0, .int .i64 0, .int .i64 0, .int .i64 0] 37))
  have hs := Aside0.mk (show w.heap.size + 1 < ((w.alloc (.cells #[.int .i64 8, .int .i64 t0, .int .i64 t1, .int .i64 t2, .int .i64 t3, .int .i64 t4, .int .i64 t5, .int .i64 t6, .int .i64 t7] 37)).alloc (.cells #[.int .i64 0, .int .i64 0, .int .i64 0, .int .i64 0, .int .i64 0, .int .i64 0, .int .i64 0, .int .i64 0, .int .i64 0] 37)).heap.size by simp)
  go_enter Try.func16, Try.ntmps16
  go_wp2
  go_region_law (refine step_copy_tell rfl (.tmp 21) (.tmp 23) 34 rfl 3 Try.underlying34 (by kernel_rfl) (w.heap.size) 8 rfl rfl (.int .i64 8) (.int .i64 t0) (.int .i64 t1) (.int .i64 t2) (.int .i64 t3) (.int .i64 t4) (.int .i64 t5) (.int .i64 t6) (.int .i64 t7) 37 (by exact hg.out) rfl rfl rfl rfl rfl rfl rfl ?_; rw [setRow_here])
  go_wp2
  refine bodyPost_ret (v := .tuple #[.agg #[.int .i64 8, .int .i64 z, .int .i64 t0, .int .i64 t1, .int .i64 t2, .int .i64 t3, .int .i64 t4, .int .i64 t5, .int .i64 t6], .int .i64 t7]) (by simp [results, Try.results16, go_sem]) rfl ⟨by rw [H.out], ?_⟩
  repeat (first | exact Below.refl _ _ | refine below_step ?_ hB.out | refine below_set ?_ (by omega) | refine Below.drew ?_ | refine below_alloc ?_ _)
def knownOf (l y t0 t1 t2 t3 t4 t5 t6 t7 : Int) : Int := if l = 0 then y else if l = 1 then t0 else if l = 2 then t1 else if l = 3 then t2 else if l = 4 then t3 else if l = 5 then t4 else if l = 6 then t5 else if l = 7 then t6 else t7
theorem tell_any (l t0 t1 t2 t3 t4 t5 t6 t7 c : Int) (h0 : 0 ≤ l) (h8 : l ≤ 8) (w : World) :
    Calls Try.prog 16 #[.agg #[.int .i64 l, .int .i64 t0, .int .i64 t1, .int .i64 t2, .int .i64 t3, .int .i64 t4, .int .i64 t5, .int .i64 t6, .int .i64 t7], .int .i64 c] w fun e w' =>
      e = .returned (.tuple #[.agg #[.int .i64 l, .int .i64 (capOf c), .int .i64 t0, .int .i64 t1, .int .i64 t2, .int .i64 t3, .int .i64 t4, .int .i64 t5, .int .i64 t6], .int .i64 (knownOf l (capOf c) t0 t1 t2 t3 t4 t5 t6 t7)]) ∧ Below w.heap.size w w' := by
  have h : l = 0 ∨ l = 1 ∨ l = 2 ∨ l = 3 ∨ l = 4 ∨ l = 5 ∨ l = 6 ∨ l = 7 ∨ l = 8 := by omega
  rcases h with rfl | rfl | rfl | rfl | rfl | rfl | rfl | rfl | rfl
  · exact tell0 t0 t1 t2 t3 t4 t5 t6 t7 c _ ⟨rfl⟩ w
  · exact tell1 t0 t1 t2 t3 t4 t5 t6 t7 c _ ⟨rfl⟩ w
  · exact tell2 t0 t1 t2 t3 t4 t5 t6 t7 c _ ⟨rfl⟩ w
  · exact tell3 t0 t1 t2 t3 t4 t5 t6 t7 c _ ⟨rfl⟩ w
  · exact tell4 t0 t1 t2 t3 t4 t5 t6 t7 c _ ⟨rfl⟩ w
  · exact tell5 t0 t1 t2 t3 t4 t5 t6 t7 c _ ⟨rfl⟩ w
  · exact tell6 t0 t1 t2 t3 t4 t5 t6 t7 c _ ⟨rfl⟩ w
  · exact tell7 t0 t1 t2 t3 t4 t5 t6 t7 c _ ⟨rfl⟩ w
  · exact tell8 t0 t1 t2 t3 t4 t5 t6 t7 c _ ⟨rfl⟩ w
def feed_New.f (a0 : Int) : Option (Int × Int × Int × Int × Int × Int × Int × Int × Int) := some (lagOf a0, 0, 0, 0, 0, 0, 0, 0, 0)
theorem feed_New.calls (a0 : Int) (r1 : Int) (r2 : Int) (r3 : Int) (r4 : Int) (r5 : Int) (r6 : Int) (r7 : Int) (r8 : Int) (r9 : Int) (w : World) (h : feed_New.f a0 = some (r1, r2, r3, r4, r5, r6, r7, r8, r9)) :
    Calls Try.prog 15 #[.int .i64 a0] w fun e w' => e = .returned (.agg #[.int .i64 r1, .int .i64 r2, .int .i64 r3, .int .i64 r4, .int .i64 r5, .int .i64 r6, .int .i64 r7, .int .i64 r8, .int .i64 r9]) ∧ Below w.heap.size w w' := by
  simp only [feed_New.f, Option.some.injEq, Prod.mk.injEq] at h
  obtain ⟨rfl, rfl, rfl, rfl, rfl, rfl, rfl, rfl, rfl⟩ := h
  exact new_any a0 w
def feed_Known_Tell.f (a0_0 : Int) (a0_1 : Int) (a0_2 : Int) (a0_3 : Int) (a0_4 : Int) (a0_5 : Int) (a0_6 : Int) (a0_7 : Int) (a0_8 : Int) (a1 : Int) : Option (Int × Int × Int × Int × Int × Int × Int × Int × Int × Int) :=
  if 0 ≤ a0_0 ∧ a0_0 ≤ 8 then some (a0_0, capOf a1, a0_1, a0_2, a0_3, a0_4, a0_5, a0_6, a0_7, knownOf a0_0 (capOf a1) a0_1 a0_2 a0_3 a0_4 a0_5 a0_6 a0_7 a0_8) else none
theorem feed_Known_Tell.calls (a0_0 : Int) (a0_1 : Int) (a0_2 : Int) (a0_3 : Int) (a0_4 : Int) (a0_5 : Int) (a0_6 : Int) (a0_7 : Int) (a0_8 : Int) (a1 : Int) (r1 : Int) (r2 : Int) (r3 : Int) (r4 : Int) (r5 : Int) (r6 : Int) (r7 : Int) (r8 : Int) (r9 : Int) (r10 : Int) (w : World) (h : feed_Known_Tell.f a0_0 a0_1 a0_2 a0_3 a0_4 a0_5 a0_6 a0_7 a0_8 a1 = some (r1, r2, r3, r4, r5, r6, r7, r8, r9, r10)) :
    Calls Try.prog 16 #[.agg #[.int .i64 a0_0, .int .i64 a0_1, .int .i64 a0_2, .int .i64 a0_3, .int .i64 a0_4, .int .i64 a0_5, .int .i64 a0_6, .int .i64 a0_7, .int .i64 a0_8], .int .i64 a1] w fun e w' => e = .returned (.tuple #[.agg #[.int .i64 r1, .int .i64 r2, .int .i64 r3, .int .i64 r4, .int .i64 r5, .int .i64 r6, .int .i64 r7, .int .i64 r8, .int .i64 r9], .int .i64 r10]) ∧ Below w.heap.size w w' := by
  unfold feed_Known_Tell.f at h
  by_cases hl : 0 ≤ a0_0 ∧ a0_0 ≤ 8
  · rw [if_pos hl] at h
    simp only [Option.some.injEq, Prod.mk.injEq] at h
    obtain ⟨rfl, rfl, rfl, rfl, rfl, rfl, rfl, rfl, rfl, rfl⟩ := h
    exact tell_any _ _ _ _ _ _ _ _ _ _ hl.1 hl.2 w
  · rw [if_neg hl] at h; cases h
end Go.Proofs.Ytangjedacimmcaa.X
