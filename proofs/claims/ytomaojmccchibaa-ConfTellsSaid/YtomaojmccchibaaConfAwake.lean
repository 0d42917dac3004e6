/- The example of layer 5 answers true. -/
import Derived.Test.YtomaojmccchibaaConfCheck
import Derived.Test.YtomaojmccchibaaXx11
namespace Go.Proofs.Ytomaojmccchibaa.X
open Go.RowKit Go.Proofs.YtomaojmccchibaaW.PrintWords Go.Proofs.YtomaojmccchibaaW.PrintLast Go.Proofs.YtomaojmccchibaaW.PrintMore
set_option linter.unusedVariables false
set_option linter.unusedSimpArgs false

def paternosterlaw05_awake.f  : Option (Bool) := some true
/-- A row of one bank that was just made. -/
theorem lit_bank {w : World} {b : Nat} {t : TypeId} {x : S38} (h : w.heap[b]? = some (.cells #[.int .i64 x.f0, .int .i64 x.f1.f0, .int .i64 x.f1.f1, .int .i64 x.f1.f2, .int .i64 x.f1.f3, .int .i64 x.f1.f4, .int .i64 x.f1.f5] t (0, 0))) : Kd.C k38 w (some ⟨b, 0, none⟩) 1 [x] := by
  refine ⟨rfl, by simp, fun _ => ⟨_, rfl, fun j p hj => ?_⟩⟩
  obtain ⟨rfl, rfl⟩ : j = 0 ∧ p = x := by
    cases j with
    | zero => exact ⟨rfl, (Option.some.inj hj).symm⟩
    | succ j => simp at hj
  refine ⟨_, rfl, k38_mk w p, fun i u hu => ?_⟩
  have e : (⟨b, 0, none⟩ : Addr).add (0 * k38.sz + i) = ⟨b, i, none⟩ := by
    rw [Nat.zero_mul, Nat.zero_add]
    unfold Addr.add; split
    · rename_i h; subst h; rfl
    · simp
  rw [e, blk_cell h i, List.getElem?_toArray]
  exact hu
def bk0 : S38 := ⟨2, ⟨0, 0, 0, 0, 0, 0⟩⟩
theorem three (w : World) (o1 o2 o3 : Obj) : (((w.alloc o1).alloc o2).alloc o3).heap[w.heap.size]? = some o1 ∧ (((w.alloc o1).alloc o2).alloc o3).heap[w.heap.size + 1]? = some o2 ∧ (((w.alloc o1).alloc o2).alloc o3).heap[w.heap.size + 1 + 1]? = some o3 ∧ Below w.heap.size w (((w.alloc o1).alloc o2).alloc o3) := by
  have h1 := blk_new w o1
  have s1 := alloc_sz w o1
  obtain ⟨w1, e1⟩ : ∃ w1, w.alloc o1 = w1 := ⟨_, rfl⟩
  have b1 : Below w.heap.size w w1 := e1 ▸ below_alloc (Below.refl w.heap.size w) o1
  rw [e1] at h1 s1 ⊢
  have h2 := blk_new w1 o2
  have s2 := alloc_sz w1 o2
  obtain ⟨w2, e2⟩ : ∃ w2, w1.alloc o2 = w2 := ⟨_, rfl⟩
  have b2 : Below w1.heap.size w1 w2 := e2 ▸ below_alloc (Below.refl w1.heap.size w1) o2
  rw [e2] at h2 s2 ⊢
  have h3 := blk_new w2 o3
  have b3 : Below w2.heap.size w2 (w2.alloc o3) := below_alloc (Below.refl w2.heap.size w2) o3
  rw [s1] at h2 s2
  rw [s2] at h3
  exact ⟨blk_below (blk_below h1 b2) b3, blk_below h2 b3, h3, below_step (below_step b1 b2) b3⟩
/-- The example's blocks. -/
def AW (s : Nat) (w W : World) : Prop :=
  W.heap[s]? = some (.cells #[.int .i64 2, .int .i64 0, .int .i64 0, .int .i64 0, .int .i64 0, .int .i64 0, .int .i64 0] 38 (0, 0)) ∧
  W.heap[s + 1]? = some (.cells #[.int .i64 1, .int .i64 0] 3 (0, 0)) ∧
  W.heap[s + 1 + 1]? = some (.cells #[.slice (some ⟨s, 0, none⟩) 1 1, .int .i64 3, .int .i64 0, .slice (some ⟨s + 1, 0, none⟩) 2 2, .int .i64 2, .int .i64 2, .int .i64 1, .int .i64 5, .int .i64 1, .int .i64 0, .int .i64 9, .int .i64 0, .int .i64 0] 25 (0, 0)) ∧ Below w.heap.size w W
section
variable {s : Nat} {w W W' : World}
theorem AW.step (h : AW s w W) (hb : Below W.heap.size W W') : AW s w W' := ⟨blk_below h.1 hb, blk_below h.2.1 hb, blk_below h.2.2.1 hb, below_step h.2.2.2 hb⟩
theorem AW.cells (h : AW s w W) : W.cell? ⟨s + 1 + 1, 0, none⟩ = some (.slice (some ⟨s, 0, none⟩) 1 1) ∧ W.cell? ⟨s + 1 + 1, 1, none⟩ = some (.int .i64 3) ∧ W.cell? ⟨s + 1 + 1, 2, none⟩ = some (.int .i64 0) ∧ W.cell? ⟨s + 1 + 1, 3, none⟩ = some (.slice (some ⟨s + 1, 0, none⟩) 2 2) ∧ W.cell? ⟨s + 1 + 1, 4, none⟩ = some (.int .i64 2) ∧ W.cell? ⟨s + 1 + 1, 5, none⟩ = some (.int .i64 2) ∧ W.cell? ⟨s + 1 + 1, 6, none⟩ = some (.int .i64 1) ∧ W.cell? ⟨s + 1 + 1, 7, none⟩ = some (.int .i64 5) ∧ W.cell? ⟨s + 1 + 1, 8, none⟩ = some (.int .i64 1) ∧ W.cell? ⟨s + 1 + 1, 9, none⟩ = some (.int .i64 0) ∧ W.cell? ⟨s + 1 + 1, 10, none⟩ = some (.int .i64 9) ∧ W.cell? ⟨s + 1 + 1, 11, none⟩ = some (.int .i64 0) ∧ W.cell? ⟨s + 1 + 1, 12, none⟩ = some (.int .i64 0) :=
  ⟨(blk_cell h.2.2.1 0).trans rfl, (blk_cell h.2.2.1 1).trans rfl, (blk_cell h.2.2.1 2).trans rfl, (blk_cell h.2.2.1 3).trans rfl, (blk_cell h.2.2.1 4).trans rfl, (blk_cell h.2.2.1 5).trans rfl, (blk_cell h.2.2.1 6).trans rfl, (blk_cell h.2.2.1 7).trans rfl, (blk_cell h.2.2.1 8).trans rfl, (blk_cell h.2.2.1 9).trans rfl, (blk_cell h.2.2.1 10).trans rfl, (blk_cell h.2.2.1 11).trans rfl, (blk_cell h.2.2.1 12).trans rfl⟩
theorem AW.bank (h : AW s w W) : Kd.C k38 W (some ⟨s, 0, none⟩) 1 [bk0] := lit_bank (x := bk0) h.1
theorem AW.ord (h : AW s w W) : Kd.C (Kd.int .i64) W (some ⟨s + 1, 0, none⟩) 2 [1, 0] := lit_C (zs := [1, 0]) h.2.1 (by simp)
end
set_option maxRecDepth 100000 in
set_option maxHeartbeats 4000000 in
theorem paternosterlaw05_awake.calls  (r : Bool) (w : World) (h : paternosterlaw05_awake.f  = some r) :
    Calls Try.prog 17 #[] w fun e w' => e = .returned (.bool r) ∧ Below w.heap.size w w' := by
  obtain rfl := Option.some.inj h
  clear h
  have HC := Aside0.mk (show conf_Check.f [bk0] 3 0 [1, 0] 2 2 1 5 1 0 9 0 0 = some true by kernel_rfl)
  have HR := Aside0.mk (show conf_Run.f 40 [bk0] 3 0 [1, 0] 2 2 1 5 1 0 9 0 0 = some 17 by kernel_rfl)
  have HD := Aside0.mk (show conf_Doors.f 40 [bk0] 3 0 [1, 0] 2 2 1 5 1 0 9 0 0 = some 3 by kernel_rfl)
  have HL := Aside0.mk (show conf_Limit.f 40 [bk0] 3 0 [1, 0] 2 2 1 5 1 0 9 0 0 0 = some 70 by kernel_rfl)
  have HN := Aside0.mk (show conf_Cars.f 40 [bk0] 3 0 [1, 0] 2 2 1 5 1 0 9 0 0 = some 2 by kernel_rfl)
  have HB1 := Aside0.mk (show conf_Conf_Bank.f 40 [bk0] 3 0 [1, 0] 2 2 1 5 1 0 9 0 0 1 = some 0 by kernel_rfl)
  have HB2 := Aside0.mk (show conf_Conf_Bank.f 40 [bk0] 3 0 [1, 0] 2 2 1 5 1 0 9 0 0 2 = some (-1) by kernel_rfl)
  go_enter Try.func17, Try.ntmps17
  go_wp2_with fail
  have H0 := Aside0.mk (show AW w.heap.size w _ from three w (.cells #[.int .i64 2, .int .i64 0, .int .i64 0, .int .i64 0, .int .i64 0, .int .i64 0, .int .i64 0] 38 (0, 0)) (.cells #[.int .i64 1, .int .i64 0] 3 (0, 0)) (.cells #[.slice (some ⟨w.heap.size, 0, none⟩) 1 1, .int .i64 3, .int .i64 0, .slice (some ⟨w.heap.size + 1, 0, none⟩) 2 2, .int .i64 2, .int .i64 2, .int .i64 1, .int .i64 5, .int .i64 1, .int .i64 0, .int .i64 9, .int .i64 0, .int .i64 0] 25 (0, 0)))
  obtain ⟨W0, hW⟩ : ∃ W0, (((w.alloc (.cells #[.int .i64 2, .int .i64 0, .int .i64 0, .int .i64 0, .int .i64 0, .int .i64 0, .int .i64 0] 38 (0, 0))).alloc (.cells #[.int .i64 1, .int .i64 0] 3 (0, 0))).alloc (.cells #[.slice (some ⟨w.heap.size, 0, none⟩) 1 1, .int .i64 3, .int .i64 0, .slice (some ⟨w.heap.size + 1, 0, none⟩) 2 2, .int .i64 2, .int .i64 2, .int .i64 1, .int .i64 5, .int .i64 1, .int .i64 0, .int .i64 9, .int .i64 0, .int .i64 0] 25 (0, 0))) = W0 := ⟨_, rfl⟩
  rw [hW] at H0 ⊢
  clear hW
  obtain ⟨s, hs⟩ : ∃ s, w.heap.size = s := ⟨_, rfl⟩
  rw [hs] at H0 ⊢
  refine (conf_Check.calls _ _ [bk0] _ _ _ _ [1, 0] _ _ _ _ _ _ _ _ _ true _ H0.out.bank (by simp) H0.out.ord (by simp) HC.out).mono ?_
  rintro e w1 ⟨rfl, hb⟩
  have H1 := Aside0.mk (H0.out.step hb)
  clear hb H0
  obtain ⟨c0, c1, c2, c3, c4, c5, c6, c7, c8, c9, c10, c11, c12⟩ := H1.out.cells
  go_wp2_with fail
  refine (conf_Run.calls 40 _ _ [bk0] _ _ _ _ [1, 0] _ _ _ _ _ _ _ _ _ 17 _ H1.out.bank (by simp) H1.out.ord (by simp) HR.out).mono ?_
  rintro e w2 ⟨rfl, hb⟩
  have H2 := Aside0.mk (H1.out.step hb)
  clear hb H1 c0 c1 c2 c3 c4 c5 c6 c7 c8 c9 c10 c11 c12
  obtain ⟨c0, c1, c2, c3, c4, c5, c6, c7, c8, c9, c10, c11, c12⟩ := H2.out.cells
  go_wp2_with fail
  refine (conf_Doors.calls 40 _ _ [bk0] _ _ _ _ [1, 0] _ _ _ _ _ _ _ _ _ 3 _ H2.out.bank (by simp) H2.out.ord (by simp) HD.out).mono ?_
  rintro e w3 ⟨rfl, hb⟩
  have H3 := Aside0.mk (H2.out.step hb)
  clear hb H2 c0 c1 c2 c3 c4 c5 c6 c7 c8 c9 c10 c11 c12
  obtain ⟨c0, c1, c2, c3, c4, c5, c6, c7, c8, c9, c10, c11, c12⟩ := H3.out.cells
  go_wp2_with fail
  refine (conf_Limit.calls 40 _ _ [bk0] _ _ _ _ [1, 0] _ _ _ _ _ _ _ _ _ 0 70 _ H3.out.bank (by simp) H3.out.ord (by simp) HL.out).mono ?_
  rintro e w4 ⟨rfl, hb⟩
  have H4 := Aside0.mk (H3.out.step hb)
  clear hb H3 c0 c1 c2 c3 c4 c5 c6 c7 c8 c9 c10 c11 c12
  obtain ⟨c0, c1, c2, c3, c4, c5, c6, c7, c8, c9, c10, c11, c12⟩ := H4.out.cells
  go_wp2_with fail
  refine (conf_Cars.calls 40 _ _ [bk0] _ _ _ _ [1, 0] _ _ _ _ _ _ _ _ _ 2 _ H4.out.bank (by simp) H4.out.ord (by simp) HN.out).mono ?_
  rintro e w5 ⟨rfl, hb⟩
  have H5 := Aside0.mk (H4.out.step hb)
  clear hb H4 c0 c1 c2 c3 c4 c5 c6 c7 c8 c9 c10 c11 c12
  obtain ⟨c0, c1, c2, c3, c4, c5, c6, c7, c8, c9, c10, c11, c12⟩ := H5.out.cells
  go_wp2_with fail
  refine (conf_Conf_Bank.calls 40 _ _ [bk0] _ _ _ _ [1, 0] _ _ _ _ _ _ _ _ _ 1 0 _ H5.out.bank (by simp) H5.out.ord (by simp) HB1.out).mono ?_
  rintro e w6 ⟨rfl, hb⟩
  have H6 := Aside0.mk (H5.out.step hb)
  clear hb H5 c0 c1 c2 c3 c4 c5 c6 c7 c8 c9 c10 c11 c12
  obtain ⟨c0, c1, c2, c3, c4, c5, c6, c7, c8, c9, c10, c11, c12⟩ := H6.out.cells
  go_wp2_with fail
  refine (conf_Conf_Bank.calls 40 _ _ [bk0] _ _ _ _ [1, 0] _ _ _ _ _ _ _ _ _ 2 (-1) _ H6.out.bank (by simp) H6.out.ord (by simp) HB2.out).mono ?_
  rintro e w7 ⟨rfl, hb⟩
  have H7 := Aside0.mk (H6.out.step hb)
  clear hb H6 c0 c1 c2 c3 c4 c5 c6 c7 c8 c9 c10 c11 c12
  obtain ⟨c0, c1, c2, c3, c4, c5, c6, c7, c8, c9, c10, c11, c12⟩ := H7.out.cells
  go_wp2_with fail
  go_ret
  exact ⟨rfl, hs ▸ H7.out.2.2.2⟩
end Go.Proofs.Ytomaojmccchibaa.X
