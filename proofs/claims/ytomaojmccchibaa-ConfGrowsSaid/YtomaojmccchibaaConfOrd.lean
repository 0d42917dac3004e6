/- Whether one of the banks is bad; whether one of the waits is; whether the order has each car once. -/
import Derived.Test.YtomaojmccchibaaConfIndex
import Derived.Maps.OwnOps
import Derived.Maps.OwnSet
namespace Go.Proofs.Ytomaojmccchibaa.X
open Go.RowKit Go.Proofs.YtomaojmccchibaaW.PrintWords Go.Proofs.YtomaojmccchibaaW.PrintLast Go.Proofs.YtomaojmccchibaaW.PrintMore
set_option linter.unusedVariables false
set_option linter.unusedSimpArgs false

theorem alloc_sz (w : World) (o : Obj) : (w.alloc o).heap.size = w.heap.size + 1 := by unfold World.alloc; simp
/-- A row of whole numbers that was just made. -/
theorem lit_C {w : World} {b : Nat} {t : TypeId} {zs : List Int} (h : w.heap[b]? = some (.cells (zs.map (Value.int .i64)).toArray t (0, 0))) (hl : zs.length ≤ 1000) : Kd.C (Kd.int .i64) w (some ⟨b, 0, none⟩) zs.length zs := by
  refine Kd.C_of_reads (enc := Value.int .i64) (d := (0 : Int)) (h1 := fun _ => rfl) ⟨rfl, by omega, fun _ => ⟨_, rfl, fun j hj => ?_⟩⟩
  have e : (⟨b, 0, none⟩ : Addr).add j = ⟨b, j, none⟩ := by
    unfold Addr.add; split
    · rename_i h; subst h; rfl
    · simp
  rw [e, blk_cell h j, List.getElem?_toArray, List.getElem?_map, List.getD_eq_getElem?_getD, List.getElem?_eq_getElem hj]; rfl
section
variable (B : Option Addr) (cn m cm : Nat) (x1 x2 x4 x5 x6 x7 x8 x9 x10 x11 x12 : Int) (w : World)
set_option maxRecDepth 100000 in
set_option maxHeartbeats 400000 in
theorem rule2 (A : Option Addr) (l : List S38) (hr : Kd.C k38 w A l.length l) (hl : l.length ≤ 1000) : Calls Try.prog 63 #[confV A B l.length cn m cm x1 x2 x4 x5 x6 x7 x8 x9 x10 x11 x12] w fun e w' => e = .returned (.bool (!l.any badB)) ∧ Below w.heap.size w w' := by
  unfold confV
  have HR := Aside0.mk hr
  clear hr
  go_enter Try.func63, Try.ntmps63
  go_wp2_with fail
  refine (has_bank A _ l _ (Kd.C_below HR.out (below_alloc (Below.refl _ _) _)) hl).mono ?_
  rintro e w1 ⟨rfl, hb⟩
  have HB := Aside0.mk hb
  clear hb
  go_wp2_with fail
  go_ret
  exact ⟨rfl, below_step (below_alloc (Below.refl _ _) _) HB.out⟩
set_option maxRecDepth 100000 in
set_option maxHeartbeats 400000 in
theorem rule5 (A : Option Addr) (n : Nat) : Calls Try.prog 68 #[confV A B n cn m cm x1 x2 x4 x5 x6 x7 x8 x9 x10 x11 x12] w fun e w' => e = .returned (.bool (!([x6, x7, x8, x10] : List Int).any badI)) ∧ Below w.heap.size w w' := by
  unfold confV
  obtain ⟨q, hq⟩ : ∃ q, ([x6, x7, x8, x10] : List Int).any badI = q := ⟨_, rfl⟩
  rw [hq]
  have HQ := Aside0.mk hq
  clear hq
  go_enter Try.func68, Try.ntmps68
  go_wp2_with fail
  obtain ⟨W1, hW⟩ : ∃ W1, w.alloc (.cells #[.slice A n cn, .int .i64 x1, .int .i64 x2, .slice B m cm, .int .i64 x4, .int .i64 x5, .int .i64 x6, .int .i64 x7, .int .i64 x8, .int .i64 x9, .int .i64 x10, .int .i64 x11, .int .i64 x12] 25) = W1 := ⟨_, rfl⟩
  have hs : W1.heap.size = w.heap.size + 1 := by rw [← hW, alloc_sz]
  have HW := Aside0.mk (show Below w.heap.size w W1 by rw [← hW]; exact below_alloc (Below.refl _ _) _)
  rw [hW, ← hs]
  clear hW hs
  refine (has_int _ 4 [x6, x7, x8, x10] _ (lit_C (blk_new W1 _) (by simp)) (by simp)).mono ?_
  rintro e w1 ⟨rfl, hb⟩
  rw [HQ.out]
  have HB := Aside0.mk hb
  clear hb
  go_wp2_with fail
  go_ret
  exact ⟨rfl, below_step (below_alloc HW.out _) HB.out⟩
end
end Go.Proofs.Ytomaojmccchibaa.X
