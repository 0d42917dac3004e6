-- Written by a program of this session (wip/xprint/xprint.py runs the kit's print with hand-proved externs).
import Derived.Test.YtomaojmccchibaaXx0
namespace Go.Proofs.Ytomaojmccchibaa.X
open Go.RowKit Go.Proofs.YtomaojmccchibaaW.PrintWords Go.Proofs.YtomaojmccchibaaW.PrintLast Go.Proofs.YtomaojmccchibaaW.PrintMore
attribute [local go_sem] max2_int min2_int max_two min_two max_three min_three max_four min_four   -- for this text's walks alone
set_option linter.unusedVariables false
set_option linter.unusedSimpArgs false

/-! ### paternosterlaw05_of: function 21 -/
def ofG.l0 : Nat → Int → List (S38) → Int → Int → List Int → Int → Int → Int → Int → Int → Int → Int → Int → Int → List (S69) → Int → Int → List Int → Int → Int → Int → Int → Int → Int → Int → Int → Int → Option ((List (S69)) × Int × Int × List Int × Int × Int × Int × Int × Int × Int × Int × Int × Int)
  | 0, _, _, _, _, _, _, _, _, _, _, _, _, _, _, _, _, _, _, _, _, _, _, _, _, _, _, _ => none
  | k + 1, x4, x199000, x199001, x199002, x199003, x199004, x199005, x199006, x199007, x199008, x199009, x199010, x199011, x199012, x201000, x201001, x201002, x201003, x201004, x201005, x201006, x201007, x201008, x201009, x201010, x201011, x201012 => if x4 < (x199000.length : Int) then (if 0 ≤ x4 then (if x201000.length < 2513169434916 then (ofG.l0 k (wrap64 (x4 + 1)) x199000 x199001 x199002 x199003 x199004 x199005 x199006 x199007 x199008 x199009 x199010 x199011 x199012 (x201000 ++ [(⟨(rd_T38 x199000 x4).f0, (⟨(rd_T38 x199000 x4).f1.f0, (rd_T38 x199000 x4).f1.f1, (rd_T38 x199000 x4).f1.f2, (rd_T38 x199000 x4).f1.f3, (rd_T38 x199000 x4).f1.f4, (rd_T38 x199000 x4).f1.f5⟩ : S45)⟩ : S69)]) x201001 x201002 x201003 x201004 x201005 x201006 x201007 x201008 x201009 x201010 x201011 x201012) else (none)) else (none)) else (some (x201000, x201001, x201002, x201003, x201004, x201005, x201006, x201007, x201008, x201009, x201010, x201011, x201012))
def ofG.f (k : Nat) (l0_0 : List (S38)) (a0_1 : Int) (a0_2 : Int) (l0_3 : List Int) (a0_4 : Int) (a0_5 : Int) (a0_6 : Int) (a0_7 : Int) (a0_8 : Int) (a0_9 : Int) (a0_10 : Int) (a0_11 : Int) (a0_12 : Int) : Option ((List (S69)) × Int × Int × List Int × Int × Int × Int × Int × Int × Int × Int × Int × Int) := ofG.l0 k 0 l0_0 a0_1 a0_2 l0_3 a0_4 a0_5 a0_6 a0_7 a0_8 a0_9 a0_10 a0_11 a0_12 ([] : List (S69)) a0_1 a0_2 l0_3 a0_4 a0_5 a0_6 a0_7 a0_8 a0_9 a0_10 a0_11 a0_12
def ofG.T6 : Bool × List (List Nat × List Nat) := (true, [([], []), ([0], [0]), ([], []), ([2], [2]), ([], []), ([3, 4], [3, 4]), ([5], [5]), ([6], [6]), ([], []), ([8], [8]), ([], []), ([10], [10]), ([], []), ([12], [12]), ([], []), ([14], [14]), ([], []), ([16], [16]), ([], []), ([18], [18]), ([9, 11, 13, 15, 17, 19], [9, 11, 13, 15, 17, 19]), ([7, 20], [7, 20]), ([21], [21]), ([1, 22], [1, 22]), ([0, 1, 2, 3, 4, 5, 6, 7, 8, 9, 10, 11, 12, 13, 14, 15, 16, 17, 18, 19, 20, 21, 22, 23], []), ([24, 23, 23, 0, 1, 2, 3, 4, 5, 6, 7, 8, 9, 10, 11, 12, 13, 14, 15, 16, 17, 18, 19, 20, 21, 22, 23], [23, 24])])
def ofG.B6 : List Nat := [0, 1, 0, 4, 0, 28, 60, 124, 0, 256, 0, 1024, 0, 4096, 0, 16384, 0, 65536, 0, 262144, 1048320, 2097148, 4194300, 8388607, 16777215, 33554431]
theorem ofG.tab6 : rtab .any (opsOf Try.f21 6) = ofG.T6 := by kernel_rfl
theorem ofG.bits6 : waitsOk ofG.T6.2 ofG.B6 = true := by kernel_rfl
set_option maxHeartbeats 8000000 in
set_option maxRecDepth 100000 in
theorem of_walk (k : Nat) (A0_0 : Option Addr) (c0_0 : Nat) (l0_0 : List (S38)) (a0_1 : Int) (a0_2 : Int) (P0_3_ : Nat → Prop) (Ao2 : Option Addr) (co2 : Nat) (l0_3 : List Int) (a0_4 : Int) (a0_5 : Int) (a0_6 : Int) (a0_7 : Int) (a0_8 : Int) (a0_9 : Int) (a0_10 : Int) (a0_11 : Int) (a0_12 : Int) (r1 : List (S69)) (r2 : Int) (r3 : Int) (r4 : List Int) (r5 : Int) (r6 : Int) (r7 : Int) (r8 : Int) (r9 : Int) (r10 : Int) (r11 : Int) (r12 : Int) (r13 : Int) (w0 w : World) (hB : Below w0.heap.size w0 w) (hr0_0 : ∀ W_, Kept w W_ (fun k_ => P0_3_ k_) → Kd.C k38 W_ A0_0 l0_0.length l0_0) (hc0_0 : l0_0.length ≤ c0_0) (h : ofG.f k l0_0 a0_1 a0_2 l0_3 a0_4 a0_5 a0_6 a0_7 a0_8 a0_9 a0_10 a0_11 a0_12 = some (r1, r2, r3, r4, r5, r6, r7, r8, r9, r10, r11, r12, r13)) :
    Calls Try.prog 21 #[.agg #[.slice A0_0 l0_0.length c0_0, .int .i64 a0_1, .int .i64 a0_2, .slice Ao2 l0_3.length co2, .int .i64 a0_4, .int .i64 a0_5, .int .i64 a0_6, .int .i64 a0_7, .int .i64 a0_8, .int .i64 a0_9, .int .i64 a0_10, .int .i64 a0_11, .int .i64 a0_12]] w fun e w' => ∃ v0_ : Value, e = .returned (.agg #[v0_, .int .i64 r2, .int .i64 r3, .slice Ao2 r4.length co2, .int .i64 r5, .int .i64 r6, .int .i64 r7, .int .i64 r8, .int .i64 r9, .int .i64 r10, .int .i64 r11, .int .i64 r12, .int .i64 r13]) ∧ Kd.R k69 69 w' w0.heap.size (fun k_ => (P0_3_ k_ ∨ w.heap.size ≤ k_)) v0_ r1 ∧ Below w0.heap.size w0 w' ∧ Kept w w' (fun k_ => P0_3_ k_) := by
  have hu25 := Try.underlying25
  have hu31 := Try.underlying31
  have hu36 := Try.underlying36
  have hu45 := Try.underlying45
  have hu69 := Try.underlying69
  have HR0_0 := Aside0.mk hr0_0
  have HC0_0 := Aside0.mk hc0_0
  clear hr0_0 hc0_0
  have HO0_3 : Aside0 True := ⟨trivial⟩
  have HK := Aside0.mk (Kept.refl w (fun k_ => P0_3_ k_))
  have HW0 := Aside0.mk hB.size
  have HB := Aside0.mk hB
  clear hB
  have H : (ofG.l0 k 0 l0_0 a0_1 a0_2 l0_3 a0_4 a0_5 a0_6 a0_7 a0_8 a0_9 a0_10 a0_11 a0_12 ([] : List (S69)) a0_1 a0_2 l0_3 a0_4 a0_5 a0_6 a0_7 a0_8 a0_9 a0_10 a0_11 a0_12) = some (r1, r2, r3, r4, r5, r6, r7, r8, r9, r10, r11, r12, r13) := h
  clear h
  have H' := Aside0.mk H
  clear H
  go_enter Try.func21, Try.ntmps21
  go_wp2_with (first | ((with_reducible refine gate_dst (N := 1) rfl ?_); refine box_event ?hg (N := 1) ?hd (cs := #[.slice A0_0 l0_0.length c0_0, .int .i64 a0_1, .int .i64 a0_2, .slice Ao2 l0_3.length co2, .int .i64 a0_4, .int .i64 a0_5, .int .i64 a0_6, .int .i64 a0_7, .int .i64 a0_8, .int .i64 a0_9, .int .i64 a0_10, .int .i64 a0_11, .int .i64 a0_12]) (t := 25) ?hr ?_; (case hd => rfl); (case hg => rfl); (case hr => first | (go_simp; done) | (go_simp; rfl)); intro gb198 hg w3 hbox hb; have n0_ : Aside0 True := ⟨trivial⟩; have n1_ := Aside0.mk (Kept.below (S := (fun k_ => P0_3_ k_)) (by repeat (first | (with_reducible first | exact HK.out | apply Kept.alloc | apply Kept.drewN | apply Kept.drew) | exact HK.out)) hb); have n2_ := Aside0.mk (below_step (by repeat (first | (with_reducible first | exact HB.out | apply below_alloc | apply pw_below_drewN | apply below_drew1) | exact HB.out)) hb); have n3_ := Aside0.mk (hbox); have n4_ := Aside0.mk ((by rw [hg]; exact (by first | exact HK.out.1 | exact (show Kept w _ (fun k_ => P0_3_ k_) from by repeat (first | (with_reducible first | exact HK.out | apply Kept.alloc | apply Kept.drewN | apply Kept.drew) | exact HK.out)).1) : w.heap.size ≤ gb198)); have n5_ := Aside0.mk ((by rw [hg]; exact (below_size (by repeat (first | (with_reducible first | exact HB.out | apply below_alloc | apply pw_below_drewN | apply below_drew1) | exact HB.out))) : w0.heap.size ≤ gb198)); clear HO0_3; clear HK; clear HB; have HO0_3 := n0_; have HK := n1_; have HB := n2_; have BK198 := n3_; have GW198 := n4_; have GE198 := n5_; clear n0_ n1_ n2_ n3_ n4_ n5_; clear hb hbox hg) | ((with_reducible refine gate_dst (N := 2) rfl ?_); refine box_event ?hg (N := 2) ?hd (cs := #[.slice none 0 0, .int .i64 0, .int .i64 0, .slice none 0 0, .int .i64 0, .int .i64 0, .int .i64 0, .int .i64 0, .int .i64 0, .int .i64 0, .int .i64 0, .int .i64 0, .int .i64 0]) (t := 31) ?hr ?_; (case hd => rfl); (case hg => rfl); (case hr => first | (go_simp; done) | (go_simp; rfl)); intro gb199 hg w4 hbox hb; have n0_ : Aside0 True := ⟨trivial⟩; have n1_ := Aside0.mk (blk_below (g := gb198) (o := .cells #[.slice A0_0 l0_0.length c0_0, .int .i64 a0_1, .int .i64 a0_2, .slice Ao2 l0_3.length co2, .int .i64 a0_4, .int .i64 a0_5, .int .i64 a0_6, .int .i64 a0_7, .int .i64 a0_8, .int .i64 a0_9, .int .i64 a0_10, .int .i64 a0_11, .int .i64 a0_12] 25 (0, 0)) (by (with_reducible repeat (first | refine blk_drewN ?_ _ | refine blk_drew ?_ | refine blk_alloc ?_ _)); exact BK198.out) hb); have n2_ := Aside0.mk (Kept.below (S := (fun k_ => P0_3_ k_)) (by repeat (first | (with_reducible first | exact HK.out | apply Kept.alloc | apply Kept.drewN | apply Kept.drew | refine Kept.setCell ?_ (.inr GW198.out) _) | exact HK.out)) hb); have n3_ := Aside0.mk (below_step (by repeat (first | (with_reducible first | exact HB.out | apply below_alloc | apply pw_below_drewN | apply below_drew1 | refine below_set ?_ GE198.out) | exact HB.out)) hb); have n4_ := Aside0.mk (hbox); have n5_ := Aside0.mk ((by rw [hg]; exact (by first | exact HK.out.1 | exact (show Kept w _ (fun k_ => P0_3_ k_) from by repeat (first | (with_reducible first | exact HK.out | apply Kept.alloc | apply Kept.drewN | apply Kept.drew | refine Kept.setCell ?_ (.inr GW198.out) _) | exact HK.out)).1) : w.heap.size ≤ gb199)); have n6_ := Aside0.mk ((by rw [hg]; exact (below_size (by repeat (first | (with_reducible first | exact HB.out | apply below_alloc | apply pw_below_drewN | apply below_drew1 | refine below_set ?_ GE198.out) | exact HB.out))) : w0.heap.size ≤ gb199)); have n7_ := Aside0.mk ((by rw [hg]; exact Nat.ne_of_lt (blk_lt (g := gb198) (o := .cells #[.slice A0_0 l0_0.length c0_0, .int .i64 a0_1, .int .i64 a0_2, .slice Ao2 l0_3.length co2, .int .i64 a0_4, .int .i64 a0_5, .int .i64 a0_6, .int .i64 a0_7, .int .i64 a0_8, .int .i64 a0_9, .int .i64 a0_10, .int .i64 a0_11, .int .i64 a0_12] 25 (0, 0)) (by (with_reducible repeat (first | refine blk_drewN ?_ _ | refine blk_drew ?_ | refine blk_alloc ?_ _)); exact BK198.out)) : gb198 ≠ gb199)); have n8_ := Aside0.mk ((by rw [hg]; exact Nat.ne_of_gt (blk_lt (g := gb198) (o := .cells #[.slice A0_0 l0_0.length c0_0, .int .i64 a0_1, .int .i64 a0_2, .slice Ao2 l0_3.length co2, .int .i64 a0_4, .int .i64 a0_5, .int .i64 a0_6, .int .i64 a0_7, .int .i64 a0_8, .int .i64 a0_9, .int .i64 a0_10, .int .i64 a0_11, .int .i64 a0_12] 25 (0, 0)) (by (with_reducible repeat (first | refine blk_drewN ?_ _ | refine blk_drew ?_ | refine blk_alloc ?_ _)); exact BK198.out)) : gb199 ≠ gb198)); clear HO0_3; clear BK198; clear HK; clear HB; have HO0_3 := n0_; have BK198 := n1_; have HK := n2_; have HB := n3_; have BK199 := n4_; have GW199 := n5_; have GE199 := n6_; have NB198_199 := n7_; have NB199_198 := n8_; clear n0_ n1_ n2_ n3_ n4_ n5_ n6_ n7_ n8_; clear hb hbox hg; have hnb5 := NB198_199.out; have hnc5 := NB199_198.out; have hcz6_0 : w4.cell? ⟨gb198, 0, none⟩ = some (.slice A0_0 l0_0.length c0_0) := (blk_cell BK198.out 0).trans rfl; have hcz6_1 : w4.cell? ⟨gb198, 1, none⟩ = some (.int .i64 a0_1) := (blk_cell BK198.out 1).trans rfl; have hcz6_2 : w4.cell? ⟨gb198, 2, none⟩ = some (.int .i64 a0_2) := (blk_cell BK198.out 2).trans rfl; have hcz6_3 : w4.cell? ⟨gb198, 3, none⟩ = some (.slice Ao2 l0_3.length co2) := (blk_cell BK198.out 3).trans rfl; have hcz6_4 : w4.cell? ⟨gb198, 4, none⟩ = some (.int .i64 a0_4) := (blk_cell BK198.out 4).trans rfl; have hcz6_5 : w4.cell? ⟨gb198, 5, none⟩ = some (.int .i64 a0_5) := (blk_cell BK198.out 5).trans rfl; have hcz6_6 : w4.cell? ⟨gb198, 6, none⟩ = some (.int .i64 a0_6) := (blk_cell BK198.out 6).trans rfl; have hcz6_7 : w4.cell? ⟨gb198, 7, none⟩ = some (.int .i64 a0_7) := (blk_cell BK198.out 7).trans rfl; have hcz6_8 : w4.cell? ⟨gb198, 8, none⟩ = some (.int .i64 a0_8) := (blk_cell BK198.out 8).trans rfl; have hcz6_9 : w4.cell? ⟨gb198, 9, none⟩ = some (.int .i64 a0_9) := (blk_cell BK198.out 9).trans rfl; have hcz6_10 : w4.cell? ⟨gb198, 10, none⟩ = some (.int .i64 a0_10) := (blk_cell BK198.out 10).trans rfl; have hcz6_11 : w4.cell? ⟨gb198, 11, none⟩ = some (.int .i64 a0_11) := (blk_cell BK198.out 11).trans rfl; have hcz6_12 : w4.cell? ⟨gb198, 12, none⟩ = some (.int .i64 a0_12) := (blk_cell BK198.out 12).trans rfl; have hfz6_0 := blk_frozen BK198.out 0; have hfz6_1 := blk_frozen BK198.out 1; have hfz6_2 := blk_frozen BK198.out 2; have hfz6_3 := blk_frozen BK198.out 3; have hfz6_4 := blk_frozen BK198.out 4; have hfz6_5 := blk_frozen BK198.out 5; have hfz6_6 := blk_frozen BK198.out 6; have hfz6_7 := blk_frozen BK198.out 7; have hfz6_8 := blk_frozen BK198.out 8; have hfz6_9 := blk_frozen BK198.out 9; have hfz6_10 := blk_frozen BK198.out 10; have hfz6_11 := blk_frozen BK198.out 11; have hfz6_12 := blk_frozen BK198.out 12) | ((with_reducible refine gate_dst (N := 3) rfl ?_); refine box_event ?hg (N := 3) ?hd (cs := #[.slice none 0 0, .int .i64 0, .int .i64 0, .slice none 0 0, .int .i64 0, .int .i64 0, .int .i64 0, .int .i64 0, .int .i64 0, .int .i64 0, .int .i64 0, .int .i64 0, .int .i64 0]) (t := 31) ?hr ?_; (case hd => rfl); (case hg => rfl); (case hr => first | (go_simp; done) | (go_simp; rfl)); intro gb200 hg w7 hbox hb; have n0_ : Aside0 True := ⟨trivial⟩; have n1_ := Aside0.mk (blk_below (g := gb198) (o := .cells #[.slice A0_0 l0_0.length c0_0, .int .i64 a0_1, .int .i64 a0_2, .slice Ao2 l0_3.length co2, .int .i64 a0_4, .int .i64 a0_5, .int .i64 a0_6, .int .i64 a0_7, .int .i64 a0_8, .int .i64 a0_9, .int .i64 a0_10, .int .i64 a0_11, .int .i64 a0_12] 25 (0, 0)) (by (with_reducible repeat (first | refine blk_drewN ?_ _ | refine blk_drew ?_ | refine blk_alloc ?_ _)); exact BK198.out) hb); have n2_ := Aside0.mk (blk_below (g := gb199) (o := .cells #[.slice none 0 0, .int .i64 0, .int .i64 0, .slice none 0 0, .int .i64 0, .int .i64 0, .int .i64 0, .int .i64 0, .int .i64 0, .int .i64 0, .int .i64 0, .int .i64 0, .int .i64 0] 31 (0, 0)) (by (with_reducible repeat (first | refine blk_drewN ?_ _ | refine blk_drew ?_ | refine blk_alloc ?_ _)); exact BK199.out) hb); have n3_ := Aside0.mk (Kept.below (S := (fun k_ => P0_3_ k_)) (by repeat (first | (with_reducible first | exact HK.out | apply Kept.alloc | apply Kept.drewN | apply Kept.drew | refine Kept.setCell ?_ (.inr GW198.out) _ | refine Kept.setCell ?_ (.inr GW199.out) _) | exact HK.out)) hb); have n4_ := Aside0.mk (below_step (by repeat (first | (with_reducible first | exact HB.out | apply below_alloc | apply pw_below_drewN | apply below_drew1 | refine below_set ?_ GE198.out | refine below_set ?_ GE199.out) | exact HB.out)) hb); have n5_ := Aside0.mk (hbox); have n6_ := Aside0.mk ((by rw [hg]; exact (by first | exact HK.out.1 | exact (show Kept w _ (fun k_ => P0_3_ k_) from by repeat (first | (with_reducible first | exact HK.out | apply Kept.alloc | apply Kept.drewN | apply Kept.drew | refine Kept.setCell ?_ (.inr GW198.out) _ | refine Kept.setCell ?_ (.inr GW199.out) _) | exact HK.out)).1) : w.heap.size ≤ gb200)); have n7_ := Aside0.mk ((by rw [hg]; exact (below_size (by repeat (first | (with_reducible first | exact HB.out | apply below_alloc | apply pw_below_drewN | apply below_drew1 | refine below_set ?_ GE198.out | refine below_set ?_ GE199.out) | exact HB.out))) : w0.heap.size ≤ gb200)); have n8_ := Aside0.mk ((by rw [hg]; exact Nat.ne_of_lt (blk_lt (g := gb198) (o := .cells #[.slice A0_0 l0_0.length c0_0, .int .i64 a0_1, .int .i64 a0_2, .slice Ao2 l0_3.length co2, .int .i64 a0_4, .int .i64 a0_5, .int .i64 a0_6, .int .i64 a0_7, .int .i64 a0_8, .int .i64 a0_9, .int .i64 a0_10, .int .i64 a0_11, .int .i64 a0_12] 25 (0, 0)) (by (with_reducible repeat (first | refine blk_drewN ?_ _ | refine blk_drew ?_ | refine blk_alloc ?_ _)); exact BK198.out)) : gb198 ≠ gb200)); have n9_ := Aside0.mk ((by rw [hg]; exact Nat.ne_of_gt (blk_lt (g := gb198) (o := .cells #[.slice A0_0 l0_0.length c0_0, .int .i64 a0_1, .int .i64 a0_2, .slice Ao2 l0_3.length co2, .int .i64 a0_4, .int .i64 a0_5, .int .i64 a0_6, .int .i64 a0_7, .int .i64 a0_8, .int .i64 a0_9, .int .i64 a0_10, .int .i64 a0_11, .int .i64 a0_12] 25 (0, 0)) (by (with_reducible repeat (first | refine blk_drewN ?_ _ | refine blk_drew ?_ | refine blk_alloc ?_ _)); exact BK198.out)) : gb200 ≠ gb198)); have n10_ := Aside0.mk ((by rw [hg]; exact Nat.ne_of_lt (blk_lt (g := gb199) (o := .cells #[.slice none 0 0, .int .i64 0, .int .i64 0, .slice none 0 0, .int .i64 0, .int .i64 0, .int .i64 0, .int .i64 0, .int .i64 0, .int .i64 0, .int .i64 0, .int .i64 0, .int .i64 0] 31 (0, 0)) (by (with_reducible repeat (first | refine blk_drewN ?_ _ | refine blk_drew ?_ | refine blk_alloc ?_ _)); exact BK199.out)) : gb199 ≠ gb200)); have n11_ := Aside0.mk ((by rw [hg]; exact Nat.ne_of_gt (blk_lt (g := gb199) (o := .cells #[.slice none 0 0, .int .i64 0, .int .i64 0, .slice none 0 0, .int .i64 0, .int .i64 0, .int .i64 0, .int .i64 0, .int .i64 0, .int .i64 0, .int .i64 0, .int .i64 0, .int .i64 0] 31 (0, 0)) (by (with_reducible repeat (first | refine blk_drewN ?_ _ | refine blk_drew ?_ | refine blk_alloc ?_ _)); exact BK199.out)) : gb200 ≠ gb199)); clear HO0_3; clear BK198; clear BK199; clear HK; clear HB; have HO0_3 := n0_; have BK198 := n1_; have BK199 := n2_; have HK := n3_; have HB := n4_; have BK200 := n5_; have GW200 := n6_; have GE200 := n7_; have NB198_200 := n8_; have NB200_198 := n9_; have NB199_200 := n10_; have NB200_199 := n11_; clear n0_ n1_ n2_ n3_ n4_ n5_ n6_ n7_ n8_ n9_ n10_ n11_; clear hb hbox hg; have hnb8 := NB200_198.out; have hnc8 := NB198_200.out; have hnb9 := NB200_199.out; have hnc9 := NB199_200.out; have hcz10_0 : w7.cell? ⟨gb200, 0, none⟩ = some (.slice none 0 0) := (blk_cell BK200.out 0).trans rfl; have hcz10_1 : w7.cell? ⟨gb200, 1, none⟩ = some (.int .i64 0) := (blk_cell BK200.out 1).trans rfl; have hcz10_2 : w7.cell? ⟨gb200, 2, none⟩ = some (.int .i64 0) := (blk_cell BK200.out 2).trans rfl; have hcz10_3 : w7.cell? ⟨gb200, 3, none⟩ = some (.slice none 0 0) := (blk_cell BK200.out 3).trans rfl; have hcz10_4 : w7.cell? ⟨gb200, 4, none⟩ = some (.int .i64 0) := (blk_cell BK200.out 4).trans rfl; have hcz10_5 : w7.cell? ⟨gb200, 5, none⟩ = some (.int .i64 0) := (blk_cell BK200.out 5).trans rfl; have hcz10_6 : w7.cell? ⟨gb200, 6, none⟩ = some (.int .i64 0) := (blk_cell BK200.out 6).trans rfl; have hcz10_7 : w7.cell? ⟨gb200, 7, none⟩ = some (.int .i64 0) := (blk_cell BK200.out 7).trans rfl; have hcz10_8 : w7.cell? ⟨gb200, 8, none⟩ = some (.int .i64 0) := (blk_cell BK200.out 8).trans rfl; have hcz10_9 : w7.cell? ⟨gb200, 9, none⟩ = some (.int .i64 0) := (blk_cell BK200.out 9).trans rfl; have hcz10_10 : w7.cell? ⟨gb200, 10, none⟩ = some (.int .i64 0) := (blk_cell BK200.out 10).trans rfl; have hcz10_11 : w7.cell? ⟨gb200, 11, none⟩ = some (.int .i64 0) := (blk_cell BK200.out 11).trans rfl; have hcz10_12 : w7.cell? ⟨gb200, 12, none⟩ = some (.int .i64 0) := (blk_cell BK200.out 12).trans rfl; have hfz10_0 := blk_frozen BK200.out 0; have hfz10_1 := blk_frozen BK200.out 1; have hfz10_2 := blk_frozen BK200.out 2; have hfz10_3 := blk_frozen BK200.out 3; have hfz10_4 := blk_frozen BK200.out 4; have hfz10_5 := blk_frozen BK200.out 5; have hfz10_6 := blk_frozen BK200.out 6; have hfz10_7 := blk_frozen BK200.out 7; have hfz10_8 := blk_frozen BK200.out 8; have hfz10_9 := blk_frozen BK200.out 9; have hfz10_10 := blk_frozen BK200.out 10; have hfz10_11 := blk_frozen BK200.out 11; have hfz10_12 := blk_frozen BK200.out 12))
  go_loopg [4] k (fun kq v4 w' => ∃ (x4_1 : Int) (x201000_1 : List (S69)) (u201000 : Value), v4 = .int .i64 x4_1 ∧ Aside0 (ofG.l0 kq x4_1 l0_0 a0_1 a0_2 l0_3 a0_4 a0_5 a0_6 a0_7 a0_8 a0_9 a0_10 a0_11 a0_12 x201000_1 a0_1 a0_2 l0_3 a0_4 a0_5 a0_6 a0_7 a0_8 a0_9 a0_10 a0_11 a0_12 = some (r1, r2, r3, r4, r5, r6, r7, r8, r9, r10, r11, r12, r13)) ∧ Aside0 (kq ≤ k) ∧ Aside0 True ∧ Aside0 (Kd.R k69 69 w' w0.heap.size (fun k_ => (P0_3_ k_ ∨ w.heap.size ≤ k_)) u201000 x201000_1) ∧ Aside0 True ∧ Aside0 (w'.heap[gb198]? = some (.cells #[(.slice A0_0 l0_0.length c0_0), .int .i64 a0_1, .int .i64 a0_2, (.slice Ao2 l0_3.length co2), .int .i64 a0_4, .int .i64 a0_5, .int .i64 a0_6, .int .i64 a0_7, .int .i64 a0_8, .int .i64 a0_9, .int .i64 a0_10, .int .i64 a0_11, .int .i64 a0_12] 25 (0, 0))) ∧ Aside0 (w'.heap[gb199]? = some (.cells #[(.slice none 0 0), .int .i64 0, .int .i64 0, (.slice none 0 0), .int .i64 0, .int .i64 0, .int .i64 0, .int .i64 0, .int .i64 0, .int .i64 0, .int .i64 0, .int .i64 0, .int .i64 0] 31 (0, 0))) ∧ Aside0 (w'.heap[gb200]? = some (.cells #[u201000, .int .i64 a0_1, .int .i64 a0_2, (.slice Ao2 l0_3.length co2), .int .i64 a0_4, .int .i64 a0_5, .int .i64 a0_6, .int .i64 a0_7, .int .i64 a0_8, .int .i64 a0_9, .int .i64 a0_10, .int .i64 a0_11, .int .i64 a0_12] 31 (0, 0))) ∧ Aside0 (Kept w w' (fun k_ => P0_3_ k_)) ∧ Aside0 (Below w0.heap.size w0 w'))
  case atStart => exact ⟨(0), (([] : List (S69))), (.slice none 0 0), (by first | rfl | (simp; done) | (simp [*]; done)), H', ⟨Nat.le_refl _⟩, ⟨trivial⟩, ⟨by first | exact Kd.R_nil _ _ _ _ _ | exact Kd.N_nil _ _ _ _ _ | exact Kd.V_nil _ _ _ _ _ | exact Kd.Q_nil _ _ _ _ _ | exact Kd.S_nil _ _ _ _ _⟩, ⟨trivial⟩, ⟨by (with_reducible repeat (first | refine blk_drewN ?_ _ | refine blk_drew ?_ | refine blk_alloc ?_ _)); refine blk_far ?_ NB198_200.out _; (with_reducible repeat (first | refine blk_drewN ?_ _ | refine blk_drew ?_ | refine blk_alloc ?_ _)); refine blk_far ?_ NB198_200.out _; (with_reducible repeat (first | refine blk_drewN ?_ _ | refine blk_drew ?_ | refine blk_alloc ?_ _)); refine blk_far ?_ NB198_200.out _; (with_reducible repeat (first | refine blk_drewN ?_ _ | refine blk_drew ?_ | refine blk_alloc ?_ _)); refine blk_far ?_ NB198_200.out _; (with_reducible repeat (first | refine blk_drewN ?_ _ | refine blk_drew ?_ | refine blk_alloc ?_ _)); refine blk_far ?_ NB198_200.out _; (with_reducible repeat (first | refine blk_drewN ?_ _ | refine blk_drew ?_ | refine blk_alloc ?_ _)); refine blk_far ?_ NB198_200.out _; (with_reducible repeat (first | refine blk_drewN ?_ _ | refine blk_drew ?_ | refine blk_alloc ?_ _)); refine blk_far ?_ NB198_200.out _; (with_reducible repeat (first | refine blk_drewN ?_ _ | refine blk_drew ?_ | refine blk_alloc ?_ _)); refine blk_far ?_ NB198_200.out _; (with_reducible repeat (first | refine blk_drewN ?_ _ | refine blk_drew ?_ | refine blk_alloc ?_ _)); refine blk_far ?_ NB198_200.out _; (with_reducible repeat (first | refine blk_drewN ?_ _ | refine blk_drew ?_ | refine blk_alloc ?_ _)); refine blk_far ?_ NB198_200.out _; (with_reducible repeat (first | refine blk_drewN ?_ _ | refine blk_drew ?_ | refine blk_alloc ?_ _)); refine blk_far ?_ NB198_200.out _; (with_reducible repeat (first | refine blk_drewN ?_ _ | refine blk_drew ?_ | refine blk_alloc ?_ _)); refine blk_far ?_ NB198_200.out _; (with_reducible repeat (first | refine blk_drewN ?_ _ | refine blk_drew ?_ | refine blk_alloc ?_ _)); refine blk_far ?_ NB198_200.out _; (with_reducible repeat (first | refine blk_drewN ?_ _ | refine blk_drew ?_ | refine blk_alloc ?_ _)); exact BK198.out⟩, ⟨by (with_reducible repeat (first | refine blk_drewN ?_ _ | refine blk_drew ?_ | refine blk_alloc ?_ _)); refine blk_far ?_ NB199_200.out _; (with_reducible repeat (first | refine blk_drewN ?_ _ | refine blk_drew ?_ | refine blk_alloc ?_ _)); refine blk_far ?_ NB199_200.out _; (with_reducible repeat (first | refine blk_drewN ?_ _ | refine blk_drew ?_ | refine blk_alloc ?_ _)); refine blk_far ?_ NB199_200.out _; (with_reducible repeat (first | refine blk_drewN ?_ _ | refine blk_drew ?_ | refine blk_alloc ?_ _)); refine blk_far ?_ NB199_200.out _; (with_reducible repeat (first | refine blk_drewN ?_ _ | refine blk_drew ?_ | refine blk_alloc ?_ _)); refine blk_far ?_ NB199_200.out _; (with_reducible repeat (first | refine blk_drewN ?_ _ | refine blk_drew ?_ | refine blk_alloc ?_ _)); refine blk_far ?_ NB199_200.out _; (with_reducible repeat (first | refine blk_drewN ?_ _ | refine blk_drew ?_ | refine blk_alloc ?_ _)); refine blk_far ?_ NB199_200.out _; (with_reducible repeat (first | refine blk_drewN ?_ _ | refine blk_drew ?_ | refine blk_alloc ?_ _)); refine blk_far ?_ NB199_200.out _; (with_reducible repeat (first | refine blk_drewN ?_ _ | refine blk_drew ?_ | refine blk_alloc ?_ _)); refine blk_far ?_ NB199_200.out _; (with_reducible repeat (first | refine blk_drewN ?_ _ | refine blk_drew ?_ | refine blk_alloc ?_ _)); refine blk_far ?_ NB199_200.out _; (with_reducible repeat (first | refine blk_drewN ?_ _ | refine blk_drew ?_ | refine blk_alloc ?_ _)); refine blk_far ?_ NB199_200.out _; (with_reducible repeat (first | refine blk_drewN ?_ _ | refine blk_drew ?_ | refine blk_alloc ?_ _)); refine blk_far ?_ NB199_200.out _; (with_reducible repeat (first | refine blk_drewN ?_ _ | refine blk_drew ?_ | refine blk_alloc ?_ _)); refine blk_far ?_ NB199_200.out _; (with_reducible repeat (first | refine blk_drewN ?_ _ | refine blk_drew ?_ | refine blk_alloc ?_ _)); exact BK199.out⟩, ⟨by (with_reducible repeat (first | refine blk_drewN ?_ _ | refine blk_drew ?_ | refine blk_alloc ?_ _)); refine blk_put (cs := #[.slice none 0 0, .int .i64 a0_1, .int .i64 a0_2, .slice Ao2 l0_3.length co2, .int .i64 a0_4, .int .i64 a0_5, .int .i64 a0_6, .int .i64 a0_7, .int .i64 a0_8, .int .i64 a0_9, .int .i64 a0_10, .int .i64 a0_11, .int .i64 0]) ?_ 12 _ rfl; (with_reducible repeat (first | refine blk_drewN ?_ _ | refine blk_drew ?_ | refine blk_alloc ?_ _)); refine blk_put (cs := #[.slice none 0 0, .int .i64 a0_1, .int .i64 a0_2, .slice Ao2 l0_3.length co2, .int .i64 a0_4, .int .i64 a0_5, .int .i64 a0_6, .int .i64 a0_7, .int .i64 a0_8, .int .i64 a0_9, .int .i64 a0_10, .int .i64 0, .int .i64 0]) ?_ 11 _ rfl; (with_reducible repeat (first | refine blk_drewN ?_ _ | refine blk_drew ?_ | refine blk_alloc ?_ _)); refine blk_put (cs := #[.slice none 0 0, .int .i64 a0_1, .int .i64 a0_2, .slice Ao2 l0_3.length co2, .int .i64 a0_4, .int .i64 a0_5, .int .i64 a0_6, .int .i64 a0_7, .int .i64 a0_8, .int .i64 a0_9, .int .i64 0, .int .i64 0, .int .i64 0]) ?_ 10 _ rfl; (with_reducible repeat (first | refine blk_drewN ?_ _ | refine blk_drew ?_ | refine blk_alloc ?_ _)); refine blk_put (cs := #[.slice none 0 0, .int .i64 a0_1, .int .i64 a0_2, .slice Ao2 l0_3.length co2, .int .i64 a0_4, .int .i64 a0_5, .int .i64 a0_6, .int .i64 a0_7, .int .i64 a0_8, .int .i64 0, .int .i64 0, .int .i64 0, .int .i64 0]) ?_ 9 _ rfl; (with_reducible repeat (first | refine blk_drewN ?_ _ | refine blk_drew ?_ | refine blk_alloc ?_ _)); refine blk_put (cs := #[.slice none 0 0, .int .i64 a0_1, .int .i64 a0_2, .slice Ao2 l0_3.length co2, .int .i64 a0_4, .int .i64 a0_5, .int .i64 a0_6, .int .i64 a0_7, .int .i64 0, .int .i64 0, .int .i64 0, .int .i64 0, .int .i64 0]) ?_ 8 _ rfl; (with_reducible repeat (first | refine blk_drewN ?_ _ | refine blk_drew ?_ | refine blk_alloc ?_ _)); refine blk_put (cs := #[.slice none 0 0, .int .i64 a0_1, .int .i64 a0_2, .slice Ao2 l0_3.length co2, .int .i64 a0_4, .int .i64 a0_5, .int .i64 a0_6, .int .i64 0, .int .i64 0, .int .i64 0, .int .i64 0, .int .i64 0, .int .i64 0]) ?_ 7 _ rfl; (with_reducible repeat (first | refine blk_drewN ?_ _ | refine blk_drew ?_ | refine blk_alloc ?_ _)); refine blk_put (cs := #[.slice none 0 0, .int .i64 a0_1, .int .i64 a0_2, .slice Ao2 l0_3.length co2, .int .i64 a0_4, .int .i64 a0_5, .int .i64 0, .int .i64 0, .int .i64 0, .int .i64 0, .int .i64 0, .int .i64 0, .int .i64 0]) ?_ 6 _ rfl; (with_reducible repeat (first | refine blk_drewN ?_ _ | refine blk_drew ?_ | refine blk_alloc ?_ _)); refine blk_put (cs := #[.slice none 0 0, .int .i64 a0_1, .int .i64 a0_2, .slice Ao2 l0_3.length co2, .int .i64 a0_4, .int .i64 0, .int .i64 0, .int .i64 0, .int .i64 0, .int .i64 0, .int .i64 0, .int .i64 0, .int .i64 0]) ?_ 5 _ rfl; (with_reducible repeat (first | refine blk_drewN ?_ _ | refine blk_drew ?_ | refine blk_alloc ?_ _)); refine blk_put (cs := #[.slice none 0 0, .int .i64 a0_1, .int .i64 a0_2, .slice Ao2 l0_3.length co2, .int .i64 0, .int .i64 0, .int .i64 0, .int .i64 0, .int .i64 0, .int .i64 0, .int .i64 0, .int .i64 0, .int .i64 0]) ?_ 4 _ rfl; (with_reducible repeat (first | refine blk_drewN ?_ _ | refine blk_drew ?_ | refine blk_alloc ?_ _)); refine blk_put (cs := #[.slice none 0 0, .int .i64 a0_1, .int .i64 a0_2, .slice none 0 0, .int .i64 0, .int .i64 0, .int .i64 0, .int .i64 0, .int .i64 0, .int .i64 0, .int .i64 0, .int .i64 0, .int .i64 0]) ?_ 3 _ rfl; (with_reducible repeat (first | refine blk_drewN ?_ _ | refine blk_drew ?_ | refine blk_alloc ?_ _)); refine blk_put (cs := #[.slice none 0 0, .int .i64 a0_1, .int .i64 0, .slice none 0 0, .int .i64 0, .int .i64 0, .int .i64 0, .int .i64 0, .int .i64 0, .int .i64 0, .int .i64 0, .int .i64 0, .int .i64 0]) ?_ 2 _ rfl; (with_reducible repeat (first | refine blk_drewN ?_ _ | refine blk_drew ?_ | refine blk_alloc ?_ _)); refine blk_put (cs := #[.slice none 0 0, .int .i64 0, .int .i64 0, .slice none 0 0, .int .i64 0, .int .i64 0, .int .i64 0, .int .i64 0, .int .i64 0, .int .i64 0, .int .i64 0, .int .i64 0, .int .i64 0]) ?_ 1 _ rfl; (with_reducible repeat (first | refine blk_drewN ?_ _ | refine blk_drew ?_ | refine blk_alloc ?_ _)); refine blk_put (cs := #[.slice none 0 0, .int .i64 0, .int .i64 0, .slice none 0 0, .int .i64 0, .int .i64 0, .int .i64 0, .int .i64 0, .int .i64 0, .int .i64 0, .int .i64 0, .int .i64 0, .int .i64 0]) ?_ 0 _ rfl; (with_reducible repeat (first | refine blk_drewN ?_ _ | refine blk_drew ?_ | refine blk_alloc ?_ _)); exact BK200.out⟩, ⟨by repeat (first | (with_reducible first | exact HK.out | apply Kept.alloc | apply Kept.drewN | apply Kept.drew | refine Kept.setCell ?_ (.inr GW198.out) _ | refine Kept.setCell ?_ (.inr GW199.out) _ | refine Kept.setCell ?_ (.inr GW200.out) _) | exact HK.out)⟩, ⟨by repeat (first | (with_reducible first | exact HB.out | apply below_alloc | apply pw_below_drewN | apply below_drew1 | refine below_set ?_ GE198.out | refine below_set ?_ GE199.out | refine below_set ?_ GE200.out) | exact HB.out)⟩⟩
  case round =>
    clear H'
    try clear c2
    try clear p2
    try clear c5
    try clear c8
    try clear c9
    try clear hcz10_0
    try clear hcz10_1
    try clear hcz10_10
    try clear hcz10_11
    try clear hcz10_12
    try clear hcz10_2
    try clear hcz10_3
    try clear hcz10_4
    try clear hcz10_5
    try clear hcz10_6
    try clear hcz10_7
    try clear hcz10_8
    try clear hcz10_9
    try clear hcz6_0
    try clear hcz6_1
    try clear hcz6_10
    try clear hcz6_11
    try clear hcz6_12
    try clear hcz6_2
    try clear hcz6_3
    try clear hcz6_4
    try clear hcz6_5
    try clear hcz6_6
    try clear hcz6_7
    try clear hcz6_8
    try clear hcz6_9
    try clear hfz10_0
    try clear hfz10_1
    try clear hfz10_10
    try clear hfz10_11
    try clear hfz10_12
    try clear hfz10_2
    try clear hfz10_3
    try clear hfz10_4
    try clear hfz10_5
    try clear hfz10_6
    try clear hfz10_7
    try clear hfz10_8
    try clear hfz10_9
    try clear hfz6_0
    try clear hfz6_1
    try clear hfz6_10
    try clear hfz6_11
    try clear hfz6_12
    try clear hfz6_2
    try clear hfz6_3
    try clear hfz6_4
    try clear hfz6_5
    try clear hfz6_6
    try clear hfz6_7
    try clear hfz6_8
    try clear hfz6_9
    obtain ⟨x4_1, x201000_1, u201000, rfl, HA, HK1, HO_199003, HO_201000, HO_201003, BK198, BK199, BK200, HK, HB⟩ := hrel
    cases gk with
    | zero => exact absurd HA.out (by simp [ofG.l0])
    | succ k1 =>
      have H := HA.out
      clear HA
      simp only [ofG.l0] at H
      by_cases c11 : x4_1 < (l0_0.length : Int)
      · rw [if_pos c11] at H
        have c11b0 : decide (x4_1 < (l0_0.length : Int)) = true := decide_eq_true c11
        clear c11
        by_cases c12 : 0 ≤ x4_1
        · rw [if_pos c12] at H
          have c12b0 : decide (0 ≤ x4_1) = true := decide_eq_true c12
          clear c12
          by_cases c13 : x201000_1.length < 2513169434916
          · rw [if_pos c13] at H
            have LMc13 := Aside0.mk c13
            clear c13
            obtain ⟨y204, hy204⟩ : ∃ y_ : List (S69), y_ = (x201000_1 ++ [(⟨(rd_T38 l0_0 x4_1).f0, (⟨(rd_T38 l0_0 x4_1).f1.f0, (rd_T38 l0_0 x4_1).f1.f1, (rd_T38 l0_0 x4_1).f1.f2, (rd_T38 l0_0 x4_1).f1.f3, (rd_T38 l0_0 x4_1).f1.f4, (rd_T38 l0_0 x4_1).f1.f5⟩ : S45)⟩ : S69)]) := ⟨_, rfl⟩
            replace H : (ofG.l0 k1 (wrap64 (x4_1 + 1)) l0_0 a0_1 a0_2 l0_3 a0_4 a0_5 a0_6 a0_7 a0_8 a0_9 a0_10 a0_11 a0_12 y204 a0_1 a0_2 l0_3 a0_4 a0_5 a0_6 a0_7 a0_8 a0_9 a0_10 a0_11 a0_12) = some (r1, r2, r3, r4, r5, r6, r7, r8, r9, r10, r11, r12, r13) := by first | (rw [hy204]; with_reducible exact H) | (have H2_ := (Option.bind_some _ _).symm.trans H; rw [hy204]; with_reducible exact H2_) | (have H2_ := (Option.bind_some _ _).symm.trans H; with_reducible exact H2_) | with_reducible exact H | (rw [hy204]; exact H) | exact H
            have Ny204 := Aside0.mk hy204
            clear hy204
            have H' := Aside0.mk H
            clear H
            have hnb14 := NB198_199.out
            have hnc14 := NB199_198.out
            have hnb15 := NB198_200.out
            have hnc15 := NB200_198.out
            have hcz16_0 : wr.cell? ⟨gb198, 0, none⟩ = some (.slice A0_0 l0_0.length c0_0) := (blk_cell BK198.out 0).trans rfl
            have hcz16_1 : wr.cell? ⟨gb198, 1, none⟩ = some (.int .i64 a0_1) := (blk_cell BK198.out 1).trans rfl
            have hcz16_2 : wr.cell? ⟨gb198, 2, none⟩ = some (.int .i64 a0_2) := (blk_cell BK198.out 2).trans rfl
            have hcz16_3 : wr.cell? ⟨gb198, 3, none⟩ = some (.slice Ao2 l0_3.length co2) := (blk_cell BK198.out 3).trans rfl
            have hcz16_4 : wr.cell? ⟨gb198, 4, none⟩ = some (.int .i64 a0_4) := (blk_cell BK198.out 4).trans rfl
            have hcz16_5 : wr.cell? ⟨gb198, 5, none⟩ = some (.int .i64 a0_5) := (blk_cell BK198.out 5).trans rfl
            have hcz16_6 : wr.cell? ⟨gb198, 6, none⟩ = some (.int .i64 a0_6) := (blk_cell BK198.out 6).trans rfl
            have hcz16_7 : wr.cell? ⟨gb198, 7, none⟩ = some (.int .i64 a0_7) := (blk_cell BK198.out 7).trans rfl
            have hcz16_8 : wr.cell? ⟨gb198, 8, none⟩ = some (.int .i64 a0_8) := (blk_cell BK198.out 8).trans rfl
            have hcz16_9 : wr.cell? ⟨gb198, 9, none⟩ = some (.int .i64 a0_9) := (blk_cell BK198.out 9).trans rfl
            have hcz16_10 : wr.cell? ⟨gb198, 10, none⟩ = some (.int .i64 a0_10) := (blk_cell BK198.out 10).trans rfl
            have hcz16_11 : wr.cell? ⟨gb198, 11, none⟩ = some (.int .i64 a0_11) := (blk_cell BK198.out 11).trans rfl
            have hcz16_12 : wr.cell? ⟨gb198, 12, none⟩ = some (.int .i64 a0_12) := (blk_cell BK198.out 12).trans rfl
            have hfz16_0 := blk_frozen BK198.out 0
            have hfz16_1 := blk_frozen BK198.out 1
            have hfz16_2 := blk_frozen BK198.out 2
            have hfz16_3 := blk_frozen BK198.out 3
            have hfz16_4 := blk_frozen BK198.out 4
            have hfz16_5 := blk_frozen BK198.out 5
            have hfz16_6 := blk_frozen BK198.out 6
            have hfz16_7 := blk_frozen BK198.out 7
            have hfz16_8 := blk_frozen BK198.out 8
            have hfz16_9 := blk_frozen BK198.out 9
            have hfz16_10 := blk_frozen BK198.out 10
            have hfz16_11 := blk_frozen BK198.out 11
            have hfz16_12 := blk_frozen BK198.out 12
            have p201 : 0 ≤ (x4_1 : Int) := of_decide_eq_true (by first | (with_reducible assumption) | assumption)
            have q201 : x4_1 < (l0_0.length : Int) := of_decide_eq_true (by first | (with_reducible assumption) | assumption)
            obtain ⟨ad201, e201, hx201_0, hx201_1, hx201_2, hx201_3, hx201_4, hx201_5, hx201_6⟩ := at_T38 (Kd.C_kept_now HR0_0.out HK.out) x4_1 p201 q201
            cases e201
            replace p201 := eq_true p201
            replace q201 := eq_true q201
            try go_wp2_with (first | ((with_reducible refine gate_dst (N := 5) rfl ?_); refine box_event ?hg (N := 5) ?hd (cs := #[.int .i64 0, .int .i64 0, .int .i64 0, .int .i64 0, .int .i64 0, .int .i64 0]) (t := 36) ?hr ?_; (case hd => rfl); (case hg => rfl); (case hr => first | (go_simp; done) | (go_simp; rfl)); intro gb202 hg w17 hbox hb; have n0_ : Aside0 True := ⟨trivial⟩; have n1_ := Aside0.mk (Kd.R_below (by (with_reducible repeat (first | apply Kd.R_alloc | apply Kd.R_drewN | apply Kd.R_drew)); exact HO_201000.out) hb); have n2_ : Aside0 True := ⟨trivial⟩; have n3_ := Aside0.mk (blk_below (g := gb198) (o := .cells #[.slice (some ad201) l0_0.length c0_0, .int .i64 a0_1, .int .i64 a0_2, .slice Ao2 l0_3.length co2, .int .i64 a0_4, .int .i64 a0_5, .int .i64 a0_6, .int .i64 a0_7, .int .i64 a0_8, .int .i64 a0_9, .int .i64 a0_10, .int .i64 a0_11, .int .i64 a0_12] 25 (0, 0)) (by (with_reducible repeat (first | refine blk_drewN ?_ _ | refine blk_drew ?_ | refine blk_alloc ?_ _)); exact BK198.out) hb); have n4_ := Aside0.mk (blk_below (g := gb199) (o := .cells #[.slice none 0 0, .int .i64 0, .int .i64 0, .slice none 0 0, .int .i64 0, .int .i64 0, .int .i64 0, .int .i64 0, .int .i64 0, .int .i64 0, .int .i64 0, .int .i64 0, .int .i64 0] 31 (0, 0)) (by (with_reducible repeat (first | refine blk_drewN ?_ _ | refine blk_drew ?_ | refine blk_alloc ?_ _)); exact BK199.out) hb); have n5_ := Aside0.mk (blk_below (g := gb200) (o := .cells #[u201000, .int .i64 a0_1, .int .i64 a0_2, .slice Ao2 l0_3.length co2, .int .i64 a0_4, .int .i64 a0_5, .int .i64 a0_6, .int .i64 a0_7, .int .i64 a0_8, .int .i64 a0_9, .int .i64 a0_10, .int .i64 a0_11, .int .i64 a0_12] 31 (0, 0)) (by (with_reducible repeat (first | refine blk_drewN ?_ _ | refine blk_drew ?_ | refine blk_alloc ?_ _)); exact BK200.out) hb); have n6_ := Aside0.mk (Kept.below (S := (fun k_ => P0_3_ k_)) (by repeat (first | (with_reducible first | exact HK.out | apply Kept.alloc | apply Kept.drewN | apply Kept.drew | refine Kept.setCell ?_ (.inr GW198.out) _ | refine Kept.setCell ?_ (.inr GW199.out) _ | refine Kept.setCell ?_ (.inr GW200.out) _) | exact HK.out)) hb); have n7_ := Aside0.mk (below_step (by repeat (first | (with_reducible first | exact HB.out | apply below_alloc | apply pw_below_drewN | apply below_drew1 | refine below_set ?_ GE198.out | refine below_set ?_ GE199.out | refine below_set ?_ GE200.out) | exact HB.out)) hb); have n8_ := Aside0.mk (hbox); have n9_ := Aside0.mk ((by rw [hg]; exact (by first | exact HK.out.1 | exact (show Kept w _ (fun k_ => P0_3_ k_) from by repeat (first | (with_reducible first | exact HK.out | apply Kept.alloc | apply Kept.drewN | apply Kept.drew | refine Kept.setCell ?_ (.inr GW198.out) _ | refine Kept.setCell ?_ (.inr GW199.out) _ | refine Kept.setCell ?_ (.inr GW200.out) _) | exact HK.out)).1) : w.heap.size ≤ gb202)); have n10_ := Aside0.mk ((by rw [hg]; exact (below_size (by repeat (first | (with_reducible first | exact HB.out | apply below_alloc | apply pw_below_drewN | apply below_drew1 | refine below_set ?_ GE198.out | refine below_set ?_ GE199.out | refine below_set ?_ GE200.out) | exact HB.out))) : w0.heap.size ≤ gb202)); have n11_ := Aside0.mk ((by rw [hg]; exact Nat.ne_of_lt (blk_lt (g := gb198) (o := .cells #[.slice (some ad201) l0_0.length c0_0, .int .i64 a0_1, .int .i64 a0_2, .slice Ao2 l0_3.length co2, .int .i64 a0_4, .int .i64 a0_5, .int .i64 a0_6, .int .i64 a0_7, .int .i64 a0_8, .int .i64 a0_9, .int .i64 a0_10, .int .i64 a0_11, .int .i64 a0_12] 25 (0, 0)) (by (with_reducible repeat (first | refine blk_drewN ?_ _ | refine blk_drew ?_ | refine blk_alloc ?_ _)); exact BK198.out)) : gb198 ≠ gb202)); have n12_ := Aside0.mk ((by rw [hg]; exact Nat.ne_of_gt (blk_lt (g := gb198) (o := .cells #[.slice (some ad201) l0_0.length c0_0, .int .i64 a0_1, .int .i64 a0_2, .slice Ao2 l0_3.length co2, .int .i64 a0_4, .int .i64 a0_5, .int .i64 a0_6, .int .i64 a0_7, .int .i64 a0_8, .int .i64 a0_9, .int .i64 a0_10, .int .i64 a0_11, .int .i64 a0_12] 25 (0, 0)) (by (with_reducible repeat (first | refine blk_drewN ?_ _ | refine blk_drew ?_ | refine blk_alloc ?_ _)); exact BK198.out)) : gb202 ≠ gb198)); have n13_ := Aside0.mk ((by rw [hg]; exact Nat.ne_of_lt (blk_lt (g := gb199) (o := .cells #[.slice none 0 0, .int .i64 0, .int .i64 0, .slice none 0 0, .int .i64 0, .int .i64 0, .int .i64 0, .int .i64 0, .int .i64 0, .int .i64 0, .int .i64 0, .int .i64 0, .int .i64 0] 31 (0, 0)) (by (with_reducible repeat (first | refine blk_drewN ?_ _ | refine blk_drew ?_ | refine blk_alloc ?_ _)); exact BK199.out)) : gb199 ≠ gb202)); have n14_ := Aside0.mk ((by rw [hg]; exact Nat.ne_of_gt (blk_lt (g := gb199) (o := .cells #[.slice none 0 0, .int .i64 0, .int .i64 0, .slice none 0 0, .int .i64 0, .int .i64 0, .int .i64 0, .int .i64 0, .int .i64 0, .int .i64 0, .int .i64 0, .int .i64 0, .int .i64 0] 31 (0, 0)) (by (with_reducible repeat (first | refine blk_drewN ?_ _ | refine blk_drew ?_ | refine blk_alloc ?_ _)); exact BK199.out)) : gb202 ≠ gb199)); have n15_ := Aside0.mk ((by rw [hg]; exact Nat.ne_of_lt (blk_lt (g := gb200) (o := .cells #[u201000, .int .i64 a0_1, .int .i64 a0_2, .slice Ao2 l0_3.length co2, .int .i64 a0_4, .int .i64 a0_5, .int .i64 a0_6, .int .i64 a0_7, .int .i64 a0_8, .int .i64 a0_9, .int .i64 a0_10, .int .i64 a0_11, .int .i64 a0_12] 31 (0, 0)) (by (with_reducible repeat (first | refine blk_drewN ?_ _ | refine blk_drew ?_ | refine blk_alloc ?_ _)); exact BK200.out)) : gb200 ≠ gb202)); have n16_ := Aside0.mk ((by rw [hg]; exact Nat.ne_of_gt (blk_lt (g := gb200) (o := .cells #[u201000, .int .i64 a0_1, .int .i64 a0_2, .slice Ao2 l0_3.length co2, .int .i64 a0_4, .int .i64 a0_5, .int .i64 a0_6, .int .i64 a0_7, .int .i64 a0_8, .int .i64 a0_9, .int .i64 a0_10, .int .i64 a0_11, .int .i64 a0_12] 31 (0, 0)) (by (with_reducible repeat (first | refine blk_drewN ?_ _ | refine blk_drew ?_ | refine blk_alloc ?_ _)); exact BK200.out)) : gb202 ≠ gb200)); clear HO_199003; clear HO_201000; clear HO_201003; clear BK198; clear BK199; clear BK200; clear HK; clear HB; have HO_199003 := n0_; have HO_201000 := n1_; have HO_201003 := n2_; have BK198 := n3_; have BK199 := n4_; have BK200 := n5_; have HK := n6_; have HB := n7_; have BK202 := n8_; have GW202 := n9_; have GE202 := n10_; have NB198_202 := n11_; have NB202_198 := n12_; have NB199_202 := n13_; have NB202_199 := n14_; have NB200_202 := n15_; have NB202_200 := n16_; clear n0_ n1_ n2_ n3_ n4_ n5_ n6_ n7_ n8_ n9_ n10_ n11_ n12_ n13_ n14_ n15_ n16_; clear hb hbox hg; have hnb18 := NB202_198.out; have hnc18 := NB198_202.out; have hnb19 := NB202_199.out; have hnc19 := NB199_202.out; have hnb20 := NB202_200.out; have hnc20 := NB200_202.out; have hcz21_0 : w17.cell? ⟨gb202, 0, none⟩ = some (.int .i64 0) := (blk_cell BK202.out 0).trans rfl; have hcz21_1 : w17.cell? ⟨gb202, 1, none⟩ = some (.int .i64 0) := (blk_cell BK202.out 1).trans rfl; have hcz21_2 : w17.cell? ⟨gb202, 2, none⟩ = some (.int .i64 0) := (blk_cell BK202.out 2).trans rfl; have hcz21_3 : w17.cell? ⟨gb202, 3, none⟩ = some (.int .i64 0) := (blk_cell BK202.out 3).trans rfl; have hcz21_4 : w17.cell? ⟨gb202, 4, none⟩ = some (.int .i64 0) := (blk_cell BK202.out 4).trans rfl; have hcz21_5 : w17.cell? ⟨gb202, 5, none⟩ = some (.int .i64 0) := (blk_cell BK202.out 5).trans rfl; have hfz21_0 := blk_frozen BK202.out 0; have hfz21_1 := blk_frozen BK202.out 1; have hfz21_2 := blk_frozen BK202.out 2; have hfz21_3 := blk_frozen BK202.out 3; have hfz21_4 := blk_frozen BK202.out 4; have hfz21_5 := blk_frozen BK202.out 5))
            have n0_ : Aside0 True := ⟨trivial⟩
            have n1_ : Aside0 (Kd.R k69 69 ((((((w17.setCell ⟨gb202, 0, none⟩ (.int .i64 ((rd_T38 l0_0 x4_1).f1.f0))).setCell ⟨gb202, 1, none⟩ (.int .i64 ((rd_T38 l0_0 x4_1).f1.f1))).setCell ⟨gb202, 2, none⟩ (.int .i64 ((rd_T38 l0_0 x4_1).f1.f2))).setCell ⟨gb202, 3, none⟩ (.int .i64 ((rd_T38 l0_0 x4_1).f1.f3))).setCell ⟨gb202, 4, none⟩ (.int .i64 ((rd_T38 l0_0 x4_1).f1.f4))).setCell ⟨gb202, 5, none⟩ (.int .i64 ((rd_T38 l0_0 x4_1).f1.f5))) w0.heap.size (fun k_ => (P0_3_ k_ ∨ w.heap.size ≤ k_)) u201000 x201000_1) := ⟨by (with_reducible repeat (first | apply Kd.R_alloc | apply Kd.R_drewN | apply Kd.R_drew)); exact Kd.R_mono (Kd.R_far (p := ⟨gb202, 5, none⟩) (Kd.R_far (p := ⟨gb202, 4, none⟩) (Kd.R_far (p := ⟨gb202, 3, none⟩) (Kd.R_far (p := ⟨gb202, 2, none⟩) (Kd.R_far (p := ⟨gb202, 1, none⟩) (Kd.R_far (p := ⟨gb202, 0, none⟩) (Kd.R_types HO_201000.out BK202.out (by decide)) (fun _ hk => hk.2) (.int .i64 ((rd_T38 l0_0 x4_1).f1.f0))) (fun _ hk => hk.2) (.int .i64 ((rd_T38 l0_0 x4_1).f1.f1))) (fun _ hk => hk.2) (.int .i64 ((rd_T38 l0_0 x4_1).f1.f2))) (fun _ hk => hk.2) (.int .i64 ((rd_T38 l0_0 x4_1).f1.f3))) (fun _ hk => hk.2) (.int .i64 ((rd_T38 l0_0 x4_1).f1.f4))) (fun _ hk => hk.2) (.int .i64 ((rd_T38 l0_0 x4_1).f1.f5))) (fun _ hk => hk.1)⟩
            have n2_ : Aside0 True := ⟨trivial⟩
            have n3_ : Aside0 (((((((w17.setCell ⟨gb202, 0, none⟩ (.int .i64 ((rd_T38 l0_0 x4_1).f1.f0))).setCell ⟨gb202, 1, none⟩ (.int .i64 ((rd_T38 l0_0 x4_1).f1.f1))).setCell ⟨gb202, 2, none⟩ (.int .i64 ((rd_T38 l0_0 x4_1).f1.f2))).setCell ⟨gb202, 3, none⟩ (.int .i64 ((rd_T38 l0_0 x4_1).f1.f3))).setCell ⟨gb202, 4, none⟩ (.int .i64 ((rd_T38 l0_0 x4_1).f1.f4))).setCell ⟨gb202, 5, none⟩ (.int .i64 ((rd_T38 l0_0 x4_1).f1.f5))).heap[gb198]? = some (.cells #[.slice (some ad201) l0_0.length c0_0, .int .i64 a0_1, .int .i64 a0_2, .slice Ao2 l0_3.length co2, .int .i64 a0_4, .int .i64 a0_5, .int .i64 a0_6, .int .i64 a0_7, .int .i64 a0_8, .int .i64 a0_9, .int .i64 a0_10, .int .i64 a0_11, .int .i64 a0_12] 25 (0, 0))) := ⟨by (with_reducible repeat (first | refine blk_drewN ?_ _ | refine blk_drew ?_ | refine blk_alloc ?_ _)); refine blk_far ?_ NB198_202.out _; (with_reducible repeat (first | refine blk_drewN ?_ _ | refine blk_drew ?_ | refine blk_alloc ?_ _)); refine blk_far ?_ NB198_202.out _; (with_reducible repeat (first | refine blk_drewN ?_ _ | refine blk_drew ?_ | refine blk_alloc ?_ _)); refine blk_far ?_ NB198_202.out _; (with_reducible repeat (first | refine blk_drewN ?_ _ | refine blk_drew ?_ | refine blk_alloc ?_ _)); refine blk_far ?_ NB198_202.out _; (with_reducible repeat (first | refine blk_drewN ?_ _ | refine blk_drew ?_ | refine blk_alloc ?_ _)); refine blk_far ?_ NB198_202.out _; (with_reducible repeat (first | refine blk_drewN ?_ _ | refine blk_drew ?_ | refine blk_alloc ?_ _)); refine blk_far ?_ NB198_202.out _; (with_reducible repeat (first | refine blk_drewN ?_ _ | refine blk_drew ?_ | refine blk_alloc ?_ _)); exact BK198.out⟩
            have n4_ : Aside0 (((((((w17.setCell ⟨gb202, 0, none⟩ (.int .i64 ((rd_T38 l0_0 x4_1).f1.f0))).setCell ⟨gb202, 1, none⟩ (.int .i64 ((rd_T38 l0_0 x4_1).f1.f1))).setCell ⟨gb202, 2, none⟩ (.int .i64 ((rd_T38 l0_0 x4_1).f1.f2))).setCell ⟨gb202, 3, none⟩ (.int .i64 ((rd_T38 l0_0 x4_1).f1.f3))).setCell ⟨gb202, 4, none⟩ (.int .i64 ((rd_T38 l0_0 x4_1).f1.f4))).setCell ⟨gb202, 5, none⟩ (.int .i64 ((rd_T38 l0_0 x4_1).f1.f5))).heap[gb199]? = some (.cells #[.slice none 0 0, .int .i64 0, .int .i64 0, .slice none 0 0, .int .i64 0, .int .i64 0, .int .i64 0, .int .i64 0, .int .i64 0, .int .i64 0, .int .i64 0, .int .i64 0, .int .i64 0] 31 (0, 0))) := ⟨by (with_reducible repeat (first | refine blk_drewN ?_ _ | refine blk_drew ?_ | refine blk_alloc ?_ _)); refine blk_far ?_ NB199_202.out _; (with_reducible repeat (first | refine blk_drewN ?_ _ | refine blk_drew ?_ | refine blk_alloc ?_ _)); refine blk_far ?_ NB199_202.out _; (with_reducible repeat (first | refine blk_drewN ?_ _ | refine blk_drew ?_ | refine blk_alloc ?_ _)); refine blk_far ?_ NB199_202.out _; (with_reducible repeat (first | refine blk_drewN ?_ _ | refine blk_drew ?_ | refine blk_alloc ?_ _)); refine blk_far ?_ NB199_202.out _; (with_reducible repeat (first | refine blk_drewN ?_ _ | refine blk_drew ?_ | refine blk_alloc ?_ _)); refine blk_far ?_ NB199_202.out _; (with_reducible repeat (first | refine blk_drewN ?_ _ | refine blk_drew ?_ | refine blk_alloc ?_ _)); refine blk_far ?_ NB199_202.out _; (with_reducible repeat (first | refine blk_drewN ?_ _ | refine blk_drew ?_ | refine blk_alloc ?_ _)); exact BK199.out⟩
            have n5_ : Aside0 (((((((w17.setCell ⟨gb202, 0, none⟩ (.int .i64 ((rd_T38 l0_0 x4_1).f1.f0))).setCell ⟨gb202, 1, none⟩ (.int .i64 ((rd_T38 l0_0 x4_1).f1.f1))).setCell ⟨gb202, 2, none⟩ (.int .i64 ((rd_T38 l0_0 x4_1).f1.f2))).setCell ⟨gb202, 3, none⟩ (.int .i64 ((rd_T38 l0_0 x4_1).f1.f3))).setCell ⟨gb202, 4, none⟩ (.int .i64 ((rd_T38 l0_0 x4_1).f1.f4))).setCell ⟨gb202, 5, none⟩ (.int .i64 ((rd_T38 l0_0 x4_1).f1.f5))).heap[gb200]? = some (.cells #[u201000, .int .i64 a0_1, .int .i64 a0_2, .slice Ao2 l0_3.length co2, .int .i64 a0_4, .int .i64 a0_5, .int .i64 a0_6, .int .i64 a0_7, .int .i64 a0_8, .int .i64 a0_9, .int .i64 a0_10, .int .i64 a0_11, .int .i64 a0_12] 31 (0, 0))) := ⟨by (with_reducible repeat (first | refine blk_drewN ?_ _ | refine blk_drew ?_ | refine blk_alloc ?_ _)); refine blk_far ?_ NB200_202.out _; (with_reducible repeat (first | refine blk_drewN ?_ _ | refine blk_drew ?_ | refine blk_alloc ?_ _)); refine blk_far ?_ NB200_202.out _; (with_reducible repeat (first | refine blk_drewN ?_ _ | refine blk_drew ?_ | refine blk_alloc ?_ _)); refine blk_far ?_ NB200_202.out _; (with_reducible repeat (first | refine blk_drewN ?_ _ | refine blk_drew ?_ | refine blk_alloc ?_ _)); refine blk_far ?_ NB200_202.out _; (with_reducible repeat (first | refine blk_drewN ?_ _ | refine blk_drew ?_ | refine blk_alloc ?_ _)); refine blk_far ?_ NB200_202.out _; (with_reducible repeat (first | refine blk_drewN ?_ _ | refine blk_drew ?_ | refine blk_alloc ?_ _)); refine blk_far ?_ NB200_202.out _; (with_reducible repeat (first | refine blk_drewN ?_ _ | refine blk_drew ?_ | refine blk_alloc ?_ _)); exact BK200.out⟩
            have n6_ : Aside0 (((((((w17.setCell ⟨gb202, 0, none⟩ (.int .i64 ((rd_T38 l0_0 x4_1).f1.f0))).setCell ⟨gb202, 1, none⟩ (.int .i64 ((rd_T38 l0_0 x4_1).f1.f1))).setCell ⟨gb202, 2, none⟩ (.int .i64 ((rd_T38 l0_0 x4_1).f1.f2))).setCell ⟨gb202, 3, none⟩ (.int .i64 ((rd_T38 l0_0 x4_1).f1.f3))).setCell ⟨gb202, 4, none⟩ (.int .i64 ((rd_T38 l0_0 x4_1).f1.f4))).setCell ⟨gb202, 5, none⟩ (.int .i64 ((rd_T38 l0_0 x4_1).f1.f5))).heap[gb202]? = some (.cells #[.int .i64 ((rd_T38 l0_0 x4_1).f1.f0), .int .i64 ((rd_T38 l0_0 x4_1).f1.f1), .int .i64 ((rd_T38 l0_0 x4_1).f1.f2), .int .i64 ((rd_T38 l0_0 x4_1).f1.f3), .int .i64 ((rd_T38 l0_0 x4_1).f1.f4), .int .i64 ((rd_T38 l0_0 x4_1).f1.f5)] 36 (0, 0))) := ⟨by (with_reducible repeat (first | refine blk_drewN ?_ _ | refine blk_drew ?_ | refine blk_alloc ?_ _)); refine blk_put (cs := #[.int .i64 ((rd_T38 l0_0 x4_1).f1.f0), .int .i64 ((rd_T38 l0_0 x4_1).f1.f1), .int .i64 ((rd_T38 l0_0 x4_1).f1.f2), .int .i64 ((rd_T38 l0_0 x4_1).f1.f3), .int .i64 ((rd_T38 l0_0 x4_1).f1.f4), .int .i64 0]) ?_ 5 _ rfl; (with_reducible repeat (first | refine blk_drewN ?_ _ | refine blk_drew ?_ | refine blk_alloc ?_ _)); refine blk_put (cs := #[.int .i64 ((rd_T38 l0_0 x4_1).f1.f0), .int .i64 ((rd_T38 l0_0 x4_1).f1.f1), .int .i64 ((rd_T38 l0_0 x4_1).f1.f2), .int .i64 ((rd_T38 l0_0 x4_1).f1.f3), .int .i64 0, .int .i64 0]) ?_ 4 _ rfl; (with_reducible repeat (first | refine blk_drewN ?_ _ | refine blk_drew ?_ | refine blk_alloc ?_ _)); refine blk_put (cs := #[.int .i64 ((rd_T38 l0_0 x4_1).f1.f0), .int .i64 ((rd_T38 l0_0 x4_1).f1.f1), .int .i64 ((rd_T38 l0_0 x4_1).f1.f2), .int .i64 0, .int .i64 0, .int .i64 0]) ?_ 3 _ rfl; (with_reducible repeat (first | refine blk_drewN ?_ _ | refine blk_drew ?_ | refine blk_alloc ?_ _)); refine blk_put (cs := #[.int .i64 ((rd_T38 l0_0 x4_1).f1.f0), .int .i64 ((rd_T38 l0_0 x4_1).f1.f1), .int .i64 0, .int .i64 0, .int .i64 0, .int .i64 0]) ?_ 2 _ rfl; (with_reducible repeat (first | refine blk_drewN ?_ _ | refine blk_drew ?_ | refine blk_alloc ?_ _)); refine blk_put (cs := #[.int .i64 ((rd_T38 l0_0 x4_1).f1.f0), .int .i64 0, .int .i64 0, .int .i64 0, .int .i64 0, .int .i64 0]) ?_ 1 _ rfl; (with_reducible repeat (first | refine blk_drewN ?_ _ | refine blk_drew ?_ | refine blk_alloc ?_ _)); refine blk_put (cs := #[.int .i64 0, .int .i64 0, .int .i64 0, .int .i64 0, .int .i64 0, .int .i64 0]) ?_ 0 _ rfl; (with_reducible repeat (first | refine blk_drewN ?_ _ | refine blk_drew ?_ | refine blk_alloc ?_ _)); exact BK202.out⟩
            have n7_ : Aside0 (Kept w ((((((w17.setCell ⟨gb202, 0, none⟩ (.int .i64 ((rd_T38 l0_0 x4_1).f1.f0))).setCell ⟨gb202, 1, none⟩ (.int .i64 ((rd_T38 l0_0 x4_1).f1.f1))).setCell ⟨gb202, 2, none⟩ (.int .i64 ((rd_T38 l0_0 x4_1).f1.f2))).setCell ⟨gb202, 3, none⟩ (.int .i64 ((rd_T38 l0_0 x4_1).f1.f3))).setCell ⟨gb202, 4, none⟩ (.int .i64 ((rd_T38 l0_0 x4_1).f1.f4))).setCell ⟨gb202, 5, none⟩ (.int .i64 ((rd_T38 l0_0 x4_1).f1.f5))) (fun k_ => P0_3_ k_)) := ⟨by repeat (first | (with_reducible first | exact HK.out | apply Kept.alloc | apply Kept.drewN | apply Kept.drew | refine Kept.setCell ?_ (.inr GW198.out) _ | refine Kept.setCell ?_ (.inr GW199.out) _ | refine Kept.setCell ?_ (.inr GW200.out) _ | refine Kept.setCell ?_ (.inr GW202.out) _) | exact HK.out)⟩
            have n8_ : Aside0 (Below w0.heap.size w0 ((((((w17.setCell ⟨gb202, 0, none⟩ (.int .i64 ((rd_T38 l0_0 x4_1).f1.f0))).setCell ⟨gb202, 1, none⟩ (.int .i64 ((rd_T38 l0_0 x4_1).f1.f1))).setCell ⟨gb202, 2, none⟩ (.int .i64 ((rd_T38 l0_0 x4_1).f1.f2))).setCell ⟨gb202, 3, none⟩ (.int .i64 ((rd_T38 l0_0 x4_1).f1.f3))).setCell ⟨gb202, 4, none⟩ (.int .i64 ((rd_T38 l0_0 x4_1).f1.f4))).setCell ⟨gb202, 5, none⟩ (.int .i64 ((rd_T38 l0_0 x4_1).f1.f5)))) := ⟨by repeat (first | (with_reducible first | exact HB.out | apply below_alloc | apply pw_below_drewN | apply below_drew1 | refine below_set ?_ GE198.out | refine below_set ?_ GE199.out | refine below_set ?_ GE200.out | refine below_set ?_ GE202.out) | exact HB.out)⟩
            (try clear HO_199003)
            (try clear HO_201000)
            (try clear HO_201003)
            (try clear BK198)
            (try clear BK199)
            (try clear BK200)
            (try clear BK202)
            (try clear HK)
            (try clear HB)
            generalize ((((((w17.setCell ⟨gb202, 0, none⟩ (.int .i64 ((rd_T38 l0_0 x4_1).f1.f0))).setCell ⟨gb202, 1, none⟩ (.int .i64 ((rd_T38 l0_0 x4_1).f1.f1))).setCell ⟨gb202, 2, none⟩ (.int .i64 ((rd_T38 l0_0 x4_1).f1.f2))).setCell ⟨gb202, 3, none⟩ (.int .i64 ((rd_T38 l0_0 x4_1).f1.f3))).setCell ⟨gb202, 4, none⟩ (.int .i64 ((rd_T38 l0_0 x4_1).f1.f4))).setCell ⟨gb202, 5, none⟩ (.int .i64 ((rd_T38 l0_0 x4_1).f1.f5))) = w22 at n0_ n1_ n2_ n3_ n4_ n5_ n6_ n7_ n8_ ⊢
            have HO_199003 := n0_
            have HO_201000 := n1_
            have HO_201003 := n2_
            have BK198 := n3_
            have BK199 := n4_
            have BK200 := n5_
            have BK202 := n6_
            have HK := n7_
            have HB := n8_
            clear n0_ n1_ n2_ n3_ n4_ n5_ n6_ n7_ n8_
            have n0_ : Aside0 True := ⟨trivial⟩
            have n1_ := Aside0.mk (Kd.R_drew HO_201000.out)
            have n2_ : Aside0 True := ⟨trivial⟩
            have n3_ := Aside0.mk (blk_drew BK198.out)
            have n4_ := Aside0.mk (blk_drew BK199.out)
            have n5_ := Aside0.mk (blk_drew BK200.out)
            have n6_ := Aside0.mk (blk_drew BK202.out)
            have n7_ := Aside0.mk (Kept.drew HK.out)
            have n8_ := Aside0.mk (below_drew1 HB.out)
            clear HO_199003
            clear HO_201000
            clear HO_201003
            clear BK198
            clear BK199
            clear BK200
            clear BK202
            clear HK
            clear HB
            have HO_199003 := n0_
            have HO_201000 := n1_
            have HO_201003 := n2_
            have BK198 := n3_
            have BK199 := n4_
            have BK200 := n5_
            have BK202 := n6_
            have HK := n7_
            have HB := n8_
            clear n0_ n1_ n2_ n3_ n4_ n5_ n6_ n7_ n8_
            have p203 : 0 ≤ (x4_1 : Int) := of_decide_eq_true (by first | (with_reducible assumption) | assumption)
            have q203 : x4_1 < (l0_0.length : Int) := of_decide_eq_true (by first | (with_reducible assumption) | assumption)
            obtain ⟨ad203, e203, hx203_0, hx203_1, hx203_2, hx203_3, hx203_4, hx203_5, hx203_6⟩ := at_T38 (Kd.C_kept_now HR0_0.out HK.out) x4_1 p203 q203
            have hw203_6 := hx203_6
            have hw203_5 := hx203_5
            have hw203_4 := hx203_4
            have hw203_3 := hx203_3
            have hw203_2 := hx203_2
            have hw203_1 := hx203_1
            have hw203_0 := hx203_0
            obtain rfl : ad201 = ad203 := (by injection e203)
            replace p203 := eq_true p203
            replace q203 := eq_true q203
            refine start_ (n := 26) (S := fun w' => w'.cell? ⟨gb200, 0, none⟩ = some (u201000) ∧ w'.cell? ⟨gb200, 1, none⟩ = some (.int .i64 a0_1) ∧ w'.cell? ⟨gb200, 2, none⟩ = some (.int .i64 a0_2) ∧ w'.cell? ⟨gb200, 3, none⟩ = some (.slice Ao2 l0_3.length co2) ∧ w'.cell? ⟨gb200, 4, none⟩ = some (.int .i64 a0_4) ∧ w'.cell? ⟨gb200, 5, none⟩ = some (.int .i64 a0_5) ∧ w'.cell? ⟨gb200, 6, none⟩ = some (.int .i64 a0_6) ∧ w'.cell? ⟨gb200, 7, none⟩ = some (.int .i64 a0_7) ∧ w'.cell? ⟨gb200, 8, none⟩ = some (.int .i64 a0_8) ∧ w'.cell? ⟨gb200, 9, none⟩ = some (.int .i64 a0_9) ∧ w'.cell? ⟨gb200, 10, none⟩ = some (.int .i64 a0_10) ∧ w'.cell? ⟨gb200, 11, none⟩ = some (.int .i64 a0_11) ∧ w'.cell? ⟨gb200, 12, none⟩ = some (.int .i64 a0_12) ∧ w'.cell? ⟨gb198, 0, none⟩ = some (.slice (some ad201) l0_0.length c0_0) ∧ w'.cell? ⟨gb198, 1, none⟩ = some (.int .i64 a0_1) ∧ w'.cell? ⟨gb198, 2, none⟩ = some (.int .i64 a0_2) ∧ w'.cell? ⟨gb198, 3, none⟩ = some (.slice Ao2 l0_3.length co2) ∧ w'.cell? ⟨gb198, 4, none⟩ = some (.int .i64 a0_4) ∧ w'.cell? ⟨gb198, 5, none⟩ = some (.int .i64 a0_5) ∧ w'.cell? ⟨gb198, 6, none⟩ = some (.int .i64 a0_6) ∧ w'.cell? ⟨gb198, 7, none⟩ = some (.int .i64 a0_7) ∧ w'.cell? ⟨gb198, 8, none⟩ = some (.int .i64 a0_8) ∧ w'.cell? ⟨gb198, 9, none⟩ = some (.int .i64 a0_9) ∧ w'.cell? ⟨gb198, 10, none⟩ = some (.int .i64 a0_10) ∧ w'.cell? ⟨gb198, 11, none⟩ = some (.int .i64 a0_11) ∧ w'.cell? ⟨gb198, 12, none⟩ = some (.int .i64 a0_12) ∧ w'.cell? ⟨gb202, 0, none⟩ = some (.int .i64 ((rd_T38 l0_0 x4_1).f1.f0)) ∧ w'.cell? ⟨gb202, 1, none⟩ = some (.int .i64 ((rd_T38 l0_0 x4_1).f1.f1)) ∧ w'.cell? ⟨gb202, 2, none⟩ = some (.int .i64 ((rd_T38 l0_0 x4_1).f1.f2)) ∧ w'.cell? ⟨gb202, 3, none⟩ = some (.int .i64 ((rd_T38 l0_0 x4_1).f1.f3)) ∧ w'.cell? ⟨gb202, 4, none⟩ = some (.int .i64 ((rd_T38 l0_0 x4_1).f1.f4)) ∧ w'.cell? ⟨gb202, 5, none⟩ = some (.int .i64 ((rd_T38 l0_0 x4_1).f1.f5)) ∧ w'.cell? (ad201.add ((x4_1).toNat * 7)) = some (.int .i64 ((rd_T38 l0_0 x4_1).f0)) ∧ w'.cell? ⟨(ad201.add ((x4_1).toNat * 7)).block, (ad201.add ((x4_1).toNat * 7)).off + 1, none⟩ = some (.int .i64 ((rd_T38 l0_0 x4_1).f1.f0)) ∧ w'.cell? ⟨(ad201.add ((x4_1).toNat * 7)).block, (ad201.add ((x4_1).toNat * 7)).off + 2, none⟩ = some (.int .i64 ((rd_T38 l0_0 x4_1).f1.f1)) ∧ w'.cell? ⟨(ad201.add ((x4_1).toNat * 7)).block, (ad201.add ((x4_1).toNat * 7)).off + 3, none⟩ = some (.int .i64 ((rd_T38 l0_0 x4_1).f1.f2)) ∧ w'.cell? ⟨(ad201.add ((x4_1).toNat * 7)).block, (ad201.add ((x4_1).toNat * 7)).off + 4, none⟩ = some (.int .i64 ((rd_T38 l0_0 x4_1).f1.f3)) ∧ w'.cell? ⟨(ad201.add ((x4_1).toNat * 7)).block, (ad201.add ((x4_1).toNat * 7)).off + 5, none⟩ = some (.int .i64 ((rd_T38 l0_0 x4_1).f1.f4)) ∧ w'.cell? ⟨(ad201.add ((x4_1).toNat * 7)).block, (ad201.add ((x4_1).toNat * 7)).off + 6, none⟩ = some (.int .i64 ((rd_T38 l0_0 x4_1).f1.f5))) (ds := [23, 25]) #[false, false, false, false, false, false, false, false, false, false, false, false, false, false, false, false, false, false, false, false, false, false, false, false, false, false] (by kernel_rfl) rfl rfl ⟨(blk_cell BK200.out 0).trans rfl, (blk_cell BK200.out 1).trans rfl, (blk_cell BK200.out 2).trans rfl, (blk_cell BK200.out 3).trans rfl, (blk_cell BK200.out 4).trans rfl, (blk_cell BK200.out 5).trans rfl, (blk_cell BK200.out 6).trans rfl, (blk_cell BK200.out 7).trans rfl, (blk_cell BK200.out 8).trans rfl, (blk_cell BK200.out 9).trans rfl, (blk_cell BK200.out 10).trans rfl, (blk_cell BK200.out 11).trans rfl, (blk_cell BK200.out 12).trans rfl, (blk_cell BK198.out 0).trans rfl, (blk_cell BK198.out 1).trans rfl, (blk_cell BK198.out 2).trans rfl, (blk_cell BK198.out 3).trans rfl, (blk_cell BK198.out 4).trans rfl, (blk_cell BK198.out 5).trans rfl, (blk_cell BK198.out 6).trans rfl, (blk_cell BK198.out 7).trans rfl, (blk_cell BK198.out 8).trans rfl, (blk_cell BK198.out 9).trans rfl, (blk_cell BK198.out 10).trans rfl, (blk_cell BK198.out 11).trans rfl, (blk_cell BK198.out 12).trans rfl, (blk_cell BK202.out 0).trans rfl, (blk_cell BK202.out 1).trans rfl, (blk_cell BK202.out 2).trans rfl, (blk_cell BK202.out 3).trans rfl, (blk_cell BK202.out 4).trans rfl, (blk_cell BK202.out 5).trans rfl, hx203_0, hx203_1, hx203_2, hx203_3, hx203_4, hx203_5, hx203_6⟩ (fun hHeld => ?_); refine with_tabW ofG.tab6 ofG.bits6 (fun HT_ HW_ => ?_)
            generalize w22.drew = w23 at HO_201000 BK198 BK199 BK200 BK202 HK HB hx203_0 hx203_1 hx203_2 hx203_3 hx203_4 hx203_5 hx203_6 hHeld ⊢
            refine pure_ (i := 0) (N := some 44) (v := ?_) (a' := ?_) #[true, false, false, false, false, false, false, false, false, false, false, false, false, false, false, false, false, false, false, false, false, false, false, false, false, false] rfl rfl (any_of HT_.out (by kernel_rfl)) (fun _ _ _ h => h) (Or.inl ⟨by rfl, ?_⟩) ?_ ?_
            rotate_left
            · intro w'
              go_simp
              with_reducible rfl
            rotate_left
            · simp only [Act.put, List.setIfInBounds_toArray, List.set_cons_zero, List.set_cons_succ, i64_w, i32_w]
              rfl
            refine pure_ (i := 2) (N := some 46) (v := ?_) (a' := ?_) #[true, false, true, false, false, false, false, false, false, false, false, false, false, false, false, false, false, false, false, false, false, false, false, false, false, false] rfl rfl (any_of HT_.out (by kernel_rfl)) (fun _ _ _ h => h) (Or.inl ⟨by rfl, ?_⟩) ?_ ?_
            rotate_left
            · intro w'
              go_simp
              with_reducible rfl
            rotate_left
            · simp only [Act.put, List.setIfInBounds_toArray, List.set_cons_zero, List.set_cons_succ, i64_w, i32_w]
              rfl
            refine pure_ (i := 4) (N := some 48) (v := ?_) (a' := ?_) #[true, false, true, false, true, false, false, false, false, false, false, false, false, false, false, false, false, false, false, false, false, false, false, false, false, false] rfl rfl (any_of HT_.out (by kernel_rfl)) (fun _ _ _ h => h) (Or.inl ⟨by rfl, ?_⟩) ?_ ?_
            rotate_left
            · intro w'
              go_simp
              with_reducible rfl
            rotate_left
            · simp only [Act.put, List.setIfInBounds_toArray, List.set_cons_zero, List.set_cons_succ, i64_w, i32_w]
              rfl
            refine pure_ (i := 8) (N := some 52) (v := ?_) (a' := ?_) #[true, false, true, false, true, false, false, false, true, false, false, false, false, false, false, false, false, false, false, false, false, false, false, false, false, false] rfl rfl (any_of HT_.out (by kernel_rfl)) (fun _ _ _ h => h) (Or.inl ⟨by rfl, ?_⟩) ?_ ?_
            rotate_left
            · intro w'
              go_simp
              with_reducible rfl
            rotate_left
            · simp only [Act.put, List.setIfInBounds_toArray, List.set_cons_zero, List.set_cons_succ, i64_w, i32_w]
              rfl
            refine pure_ (i := 10) (N := some 54) (v := ?_) (a' := ?_) #[true, false, true, false, true, false, false, false, true, false, true, false, false, false, false, false, false, false, false, false, false, false, false, false, false, false] rfl rfl (any_of HT_.out (by kernel_rfl)) (fun _ _ _ h => h) (Or.inl ⟨by rfl, ?_⟩) ?_ ?_
            rotate_left
            · intro w'
              go_simp
              with_reducible rfl
            rotate_left
            · simp only [Act.put, List.setIfInBounds_toArray, List.set_cons_zero, List.set_cons_succ, i64_w, i32_w]
              rfl
            refine pure_ (i := 12) (N := some 56) (v := ?_) (a' := ?_) #[true, false, true, false, true, false, false, false, true, false, true, false, true, false, false, false, false, false, false, false, false, false, false, false, false, false] rfl rfl (any_of HT_.out (by kernel_rfl)) (fun _ _ _ h => h) (Or.inl ⟨by rfl, ?_⟩) ?_ ?_
            rotate_left
            · intro w'
              go_simp
              with_reducible rfl
            rotate_left
            · simp only [Act.put, List.setIfInBounds_toArray, List.set_cons_zero, List.set_cons_succ, i64_w, i32_w]
              rfl
            refine pure_ (i := 14) (N := some 58) (v := ?_) (a' := ?_) #[true, false, true, false, true, false, false, false, true, false, true, false, true, false, true, false, false, false, false, false, false, false, false, false, false, false] rfl rfl (any_of HT_.out (by kernel_rfl)) (fun _ _ _ h => h) (Or.inl ⟨by rfl, ?_⟩) ?_ ?_
            rotate_left
            · intro w'
              go_simp
              with_reducible rfl
            rotate_left
            · simp only [Act.put, List.setIfInBounds_toArray, List.set_cons_zero, List.set_cons_succ, i64_w, i32_w]
              rfl
            refine pure_ (i := 16) (N := some 60) (v := ?_) (a' := ?_) #[true, false, true, false, true, false, false, false, true, false, true, false, true, false, true, false, true, false, false, false, false, false, false, false, false, false] rfl rfl (any_of HT_.out (by kernel_rfl)) (fun _ _ _ h => h) (Or.inl ⟨by rfl, ?_⟩) ?_ ?_
            rotate_left
            · intro w'
              go_simp
              with_reducible rfl
            rotate_left
            · simp only [Act.put, List.setIfInBounds_toArray, List.set_cons_zero, List.set_cons_succ, i64_w, i32_w]
              rfl
            refine pure_ (i := 18) (N := some 62) (v := ?_) (a' := ?_) #[true, false, true, false, true, false, false, false, true, false, true, false, true, false, true, false, true, false, true, false, false, false, false, false, false, false] rfl rfl (any_of HT_.out (by kernel_rfl)) (fun _ _ _ h => h) (Or.inl ⟨by rfl, ?_⟩) ?_ ?_
            rotate_left
            · intro w'
              go_simp
              with_reducible rfl
            rotate_left
            · simp only [Act.put, List.setIfInBounds_toArray, List.set_cons_zero, List.set_cons_succ, i64_w, i32_w]
              rfl
            refine take_ (i := 1) (N := some 45) (v := ?_) (a' := ?_) #[true, true, true, false, true, false, false, false, true, false, true, false, true, false, true, false, true, false, true, false, false, false, false, false, false, false] rfl rfl (take_ofW HT_.out HW_.out (by kernel_rfl)) (fun _ _ _ h => h) (Or.inl ⟨by rfl, ?_⟩) hHeld ?_ ?_
            rotate_left
            · rintro w' ⟨s0, s1, s2, s3, s4, s5, s6, s7, s8, s9, s10, s11, s12, s13, s14, s15, s16, s17, s18, s19, s20, s21, s22, s23, s24, s25, s26, s27, s28, s29, s30, s31, s32, s33, s34, s35, s36, s37, s38⟩
              go_simp
              with_reducible rfl
            rotate_left
            · simp only [Act.put, List.setIfInBounds_toArray, List.set_cons_zero, List.set_cons_succ, i64_w, i32_w]
              rfl
            refine take_ (i := 3) (N := some 47) (v := ?_) (a' := ?_) #[true, true, true, true, true, false, false, false, true, false, true, false, true, false, true, false, true, false, true, false, false, false, false, false, false, false] rfl rfl (take_ofW HT_.out HW_.out (by kernel_rfl)) (fun _ _ _ h => h) (Or.inl ⟨by rfl, ?_⟩) hHeld ?_ ?_
            rotate_left
            · rintro w' ⟨s0, s1, s2, s3, s4, s5, s6, s7, s8, s9, s10, s11, s12, s13, s14, s15, s16, s17, s18, s19, s20, s21, s22, s23, s24, s25, s26, s27, s28, s29, s30, s31, s32, s33, s34, s35, s36, s37, s38⟩
              go_simp
              with_reducible rfl
            rotate_left
            · simp only [Act.put, List.setIfInBounds_toArray, List.set_cons_zero, List.set_cons_succ, i64_w, i32_w]
              rfl
            refine pure_ (i := 5) (N := some 49) (v := ?_) (a' := ?_) #[true, true, true, true, true, true, false, false, true, false, true, false, true, false, true, false, true, false, true, false, false, false, false, false, false, false] rfl rfl (any_of HT_.out (by kernel_rfl)) (fun _ _ _ h => h) (Or.inl ⟨by rfl, ?_⟩) ?_ ?_
            rotate_left
            · intro w'
              go_simp
              with_reducible rfl
            rotate_left
            · simp only [Act.put, List.setIfInBounds_toArray, List.set_cons_zero, List.set_cons_succ, i64_w, i32_w]
              rfl
            refine pure_ (i := 6) (N := some 50) (v := ?_) (a' := ?_) #[true, true, true, true, true, true, true, false, true, false, true, false, true, false, true, false, true, false, true, false, false, false, false, false, false, false] rfl rfl (any_of HT_.out (by kernel_rfl)) (fun _ _ _ h => h) (Or.inl ⟨by rfl, ?_⟩) ?_ ?_
            rotate_left
            · intro w'
              go_simp
              with_reducible rfl
            rotate_left
            · simp only [Act.put, List.setIfInBounds_toArray, List.set_cons_zero, List.set_cons_succ, i64_w, i32_w]
              rfl
            refine take_ (i := 7) (N := some 51) (v := ?_) (a' := ?_) #[true, true, true, true, true, true, true, true, true, false, true, false, true, false, true, false, true, false, true, false, false, false, false, false, false, false] rfl rfl (take_ofW HT_.out HW_.out (by kernel_rfl)) (fun _ _ _ h => h) (Or.inl ⟨by rfl, ?_⟩) hHeld ?_ ?_
            rotate_left
            · rintro w' ⟨s0, s1, s2, s3, s4, s5, s6, s7, s8, s9, s10, s11, s12, s13, s14, s15, s16, s17, s18, s19, s20, s21, s22, s23, s24, s25, s26, s27, s28, s29, s30, s31, s32, s33, s34, s35, s36, s37, s38⟩
              go_simp
              with_reducible rfl
            rotate_left
            · simp only [Act.put, List.setIfInBounds_toArray, List.set_cons_zero, List.set_cons_succ, i64_w, i32_w]
              rfl
            refine take_ (i := 9) (N := some 53) (v := ?_) (a' := ?_) #[true, true, true, true, true, true, true, true, true, true, true, false, true, false, true, false, true, false, true, false, false, false, false, false, false, false] rfl rfl (take_ofW HT_.out HW_.out (by kernel_rfl)) (fun _ _ _ h => h) (Or.inl ⟨by rfl, ?_⟩) hHeld ?_ ?_
            rotate_left
            · rintro w' ⟨s0, s1, s2, s3, s4, s5, s6, s7, s8, s9, s10, s11, s12, s13, s14, s15, s16, s17, s18, s19, s20, s21, s22, s23, s24, s25, s26, s27, s28, s29, s30, s31, s32, s33, s34, s35, s36, s37, s38⟩
              go_simp
              with_reducible rfl
            rotate_left
            · simp only [Act.put, List.setIfInBounds_toArray, List.set_cons_zero, List.set_cons_succ, i64_w, i32_w]
              rfl
            refine take_ (i := 11) (N := some 55) (v := ?_) (a' := ?_) #[true, true, true, true, true, true, true, true, true, true, true, true, true, false, true, false, true, false, true, false, false, false, false, false, false, false] rfl rfl (take_ofW HT_.out HW_.out (by kernel_rfl)) (fun _ _ _ h => h) (Or.inl ⟨by rfl, ?_⟩) hHeld ?_ ?_
            rotate_left
            · rintro w' ⟨s0, s1, s2, s3, s4, s5, s6, s7, s8, s9, s10, s11, s12, s13, s14, s15, s16, s17, s18, s19, s20, s21, s22, s23, s24, s25, s26, s27, s28, s29, s30, s31, s32, s33, s34, s35, s36, s37, s38⟩
              go_simp
              with_reducible rfl
            rotate_left
            · simp only [Act.put, List.setIfInBounds_toArray, List.set_cons_zero, List.set_cons_succ, i64_w, i32_w]
              rfl
            refine take_ (i := 13) (N := some 57) (v := ?_) (a' := ?_) #[true, true, true, true, true, true, true, true, true, true, true, true, true, true, true, false, true, false, true, false, false, false, false, false, false, false] rfl rfl (take_ofW HT_.out HW_.out (by kernel_rfl)) (fun _ _ _ h => h) (Or.inl ⟨by rfl, ?_⟩) hHeld ?_ ?_
            rotate_left
            · rintro w' ⟨s0, s1, s2, s3, s4, s5, s6, s7, s8, s9, s10, s11, s12, s13, s14, s15, s16, s17, s18, s19, s20, s21, s22, s23, s24, s25, s26, s27, s28, s29, s30, s31, s32, s33, s34, s35, s36, s37, s38⟩
              go_simp
              with_reducible rfl
            rotate_left
            · simp only [Act.put, List.setIfInBounds_toArray, List.set_cons_zero, List.set_cons_succ, i64_w, i32_w]
              rfl
            refine take_ (i := 15) (N := some 59) (v := ?_) (a' := ?_) #[true, true, true, true, true, true, true, true, true, true, true, true, true, true, true, true, true, false, true, false, false, false, false, false, false, false] rfl rfl (take_ofW HT_.out HW_.out (by kernel_rfl)) (fun _ _ _ h => h) (Or.inl ⟨by rfl, ?_⟩) hHeld ?_ ?_
            rotate_left
            · rintro w' ⟨s0, s1, s2, s3, s4, s5, s6, s7, s8, s9, s10, s11, s12, s13, s14, s15, s16, s17, s18, s19, s20, s21, s22, s23, s24, s25, s26, s27, s28, s29, s30, s31, s32, s33, s34, s35, s36, s37, s38⟩
              go_simp
              with_reducible rfl
            rotate_left
            · simp only [Act.put, List.setIfInBounds_toArray, List.set_cons_zero, List.set_cons_succ, i64_w, i32_w]
              rfl
            refine take_ (i := 17) (N := some 61) (v := ?_) (a' := ?_) #[true, true, true, true, true, true, true, true, true, true, true, true, true, true, true, true, true, true, true, false, false, false, false, false, false, false] rfl rfl (take_ofW HT_.out HW_.out (by kernel_rfl)) (fun _ _ _ h => h) (Or.inl ⟨by rfl, ?_⟩) hHeld ?_ ?_
            rotate_left
            · rintro w' ⟨s0, s1, s2, s3, s4, s5, s6, s7, s8, s9, s10, s11, s12, s13, s14, s15, s16, s17, s18, s19, s20, s21, s22, s23, s24, s25, s26, s27, s28, s29, s30, s31, s32, s33, s34, s35, s36, s37, s38⟩
              go_simp
              with_reducible rfl
            rotate_left
            · simp only [Act.put, List.setIfInBounds_toArray, List.set_cons_zero, List.set_cons_succ, i64_w, i32_w]
              rfl
            refine take_ (i := 19) (N := some 63) (v := ?_) (a' := ?_) #[true, true, true, true, true, true, true, true, true, true, true, true, true, true, true, true, true, true, true, true, false, false, false, false, false, false] rfl rfl (take_ofW HT_.out HW_.out (by kernel_rfl)) (fun _ _ _ h => h) (Or.inl ⟨by rfl, ?_⟩) hHeld ?_ ?_
            rotate_left
            · rintro w' ⟨s0, s1, s2, s3, s4, s5, s6, s7, s8, s9, s10, s11, s12, s13, s14, s15, s16, s17, s18, s19, s20, s21, s22, s23, s24, s25, s26, s27, s28, s29, s30, s31, s32, s33, s34, s35, s36, s37, s38⟩
              go_simp
              with_reducible rfl
            rotate_left
            · simp only [Act.put, List.setIfInBounds_toArray, List.set_cons_zero, List.set_cons_succ, i64_w, i32_w]
              rfl
            refine pure_ (i := 20) (N := some 64) (v := ?_) (a' := ?_) #[true, true, true, true, true, true, true, true, true, true, true, true, true, true, true, true, true, true, true, true, true, false, false, false, false, false] rfl rfl (any_of HT_.out (by kernel_rfl)) (fun _ _ _ h => h) (Or.inl ⟨by rfl, ?_⟩) ?_ ?_
            rotate_left
            · intro w'
              go_simp
              with_reducible rfl
            rotate_left
            · simp only [Act.put, List.setIfInBounds_toArray, List.set_cons_zero, List.set_cons_succ, i64_w, i32_w]
              rfl
            refine pure_ (i := 21) (N := some 65) (v := ?_) (a' := ?_) #[true, true, true, true, true, true, true, true, true, true, true, true, true, true, true, true, true, true, true, true, true, true, false, false, false, false] rfl rfl (any_of HT_.out (by kernel_rfl)) (fun _ _ _ h => h) (Or.inl ⟨by rfl, ?_⟩) ?_ ?_
            rotate_left
            · intro w'
              go_simp
              with_reducible rfl
            rotate_left
            · simp only [Act.put, List.setIfInBounds_toArray, List.set_cons_zero, List.set_cons_succ, i64_w, i32_w]
              rfl
            refine one_ (i := 22) (N := some 66) #[true, true, true, true, true, true, true, true, true, true, true, true, true, true, true, true, true, true, true, true, true, true, true, false, false, false] rfl rfl (one_of HT_.out (by kernel_rfl)) (by decide) (fun K hK => ?_)
            refine value_ (w1 := ?_) (v := ?_) (by rfl) rfl ?_ ?_
            rotate_left 2
            · go_simp
              constructor
              · rfl
              · rfl
            refine hK.out _ _ ⟨(blk_cell (blk_alloc BK200.out _) 0).trans rfl, (blk_cell (blk_alloc BK200.out _) 1).trans rfl, (blk_cell (blk_alloc BK200.out _) 2).trans rfl, (blk_cell (blk_alloc BK200.out _) 3).trans rfl, (blk_cell (blk_alloc BK200.out _) 4).trans rfl, (blk_cell (blk_alloc BK200.out _) 5).trans rfl, (blk_cell (blk_alloc BK200.out _) 6).trans rfl, (blk_cell (blk_alloc BK200.out _) 7).trans rfl, (blk_cell (blk_alloc BK200.out _) 8).trans rfl, (blk_cell (blk_alloc BK200.out _) 9).trans rfl, (blk_cell (blk_alloc BK200.out _) 10).trans rfl, (blk_cell (blk_alloc BK200.out _) 11).trans rfl, (blk_cell (blk_alloc BK200.out _) 12).trans rfl, (blk_cell (blk_alloc BK198.out _) 0).trans rfl, (blk_cell (blk_alloc BK198.out _) 1).trans rfl, (blk_cell (blk_alloc BK198.out _) 2).trans rfl, (blk_cell (blk_alloc BK198.out _) 3).trans rfl, (blk_cell (blk_alloc BK198.out _) 4).trans rfl, (blk_cell (blk_alloc BK198.out _) 5).trans rfl, (blk_cell (blk_alloc BK198.out _) 6).trans rfl, (blk_cell (blk_alloc BK198.out _) 7).trans rfl, (blk_cell (blk_alloc BK198.out _) 8).trans rfl, (blk_cell (blk_alloc BK198.out _) 9).trans rfl, (blk_cell (blk_alloc BK198.out _) 10).trans rfl, (blk_cell (blk_alloc BK198.out _) 11).trans rfl, (blk_cell (blk_alloc BK198.out _) 12).trans rfl, (blk_cell (blk_alloc BK202.out _) 0).trans rfl, (blk_cell (blk_alloc BK202.out _) 1).trans rfl, (blk_cell (blk_alloc BK202.out _) 2).trans rfl, (blk_cell (blk_alloc BK202.out _) 3).trans rfl, (blk_cell (blk_alloc BK202.out _) 4).trans rfl, (blk_cell (blk_alloc BK202.out _) 5).trans rfl, (World.cell?_alloc_lt _ _ _ (World.block_lt_of_cell? _ _ (hHeld.2.2.2.2.2.2.2.2.2.2.2.2.2.2.2.2.2.2.2.2.2.2.2.2.2.2.2.2.2.2.2.2.1))).trans (hHeld.2.2.2.2.2.2.2.2.2.2.2.2.2.2.2.2.2.2.2.2.2.2.2.2.2.2.2.2.2.2.2.2.1), (World.cell?_alloc_lt _ _ _ (World.block_lt_of_cell? _ _ (hHeld.2.2.2.2.2.2.2.2.2.2.2.2.2.2.2.2.2.2.2.2.2.2.2.2.2.2.2.2.2.2.2.2.2.1))).trans (hHeld.2.2.2.2.2.2.2.2.2.2.2.2.2.2.2.2.2.2.2.2.2.2.2.2.2.2.2.2.2.2.2.2.2.1), (World.cell?_alloc_lt _ _ _ (World.block_lt_of_cell? _ _ (hHeld.2.2.2.2.2.2.2.2.2.2.2.2.2.2.2.2.2.2.2.2.2.2.2.2.2.2.2.2.2.2.2.2.2.2.1))).trans (hHeld.2.2.2.2.2.2.2.2.2.2.2.2.2.2.2.2.2.2.2.2.2.2.2.2.2.2.2.2.2.2.2.2.2.2.1), (World.cell?_alloc_lt _ _ _ (World.block_lt_of_cell? _ _ (hHeld.2.2.2.2.2.2.2.2.2.2.2.2.2.2.2.2.2.2.2.2.2.2.2.2.2.2.2.2.2.2.2.2.2.2.2.1))).trans (hHeld.2.2.2.2.2.2.2.2.2.2.2.2.2.2.2.2.2.2.2.2.2.2.2.2.2.2.2.2.2.2.2.2.2.2.2.1), (World.cell?_alloc_lt _ _ _ (World.block_lt_of_cell? _ _ (hHeld.2.2.2.2.2.2.2.2.2.2.2.2.2.2.2.2.2.2.2.2.2.2.2.2.2.2.2.2.2.2.2.2.2.2.2.2.1))).trans (hHeld.2.2.2.2.2.2.2.2.2.2.2.2.2.2.2.2.2.2.2.2.2.2.2.2.2.2.2.2.2.2.2.2.2.2.2.2.1), (World.cell?_alloc_lt _ _ _ (World.block_lt_of_cell? _ _ (hHeld.2.2.2.2.2.2.2.2.2.2.2.2.2.2.2.2.2.2.2.2.2.2.2.2.2.2.2.2.2.2.2.2.2.2.2.2.2.1))).trans (hHeld.2.2.2.2.2.2.2.2.2.2.2.2.2.2.2.2.2.2.2.2.2.2.2.2.2.2.2.2.2.2.2.2.2.2.2.2.2.1), (World.cell?_alloc_lt _ _ _ (World.block_lt_of_cell? _ _ (hHeld.2.2.2.2.2.2.2.2.2.2.2.2.2.2.2.2.2.2.2.2.2.2.2.2.2.2.2.2.2.2.2.2.2.2.2.2.2.2))).trans (hHeld.2.2.2.2.2.2.2.2.2.2.2.2.2.2.2.2.2.2.2.2.2.2.2.2.2.2.2.2.2.2.2.2.2.2.2.2.2.2)⟩ (fun hHeld => ?_)
            clear hK K
            refine norm_ (a' := ?_) ?_ ?_
            rotate_left
            · show Act.put _ (some 66) _ = _
              simp only [Act.put, List.setIfInBounds_toArray, List.set_cons_zero, List.set_cons_succ, i64_w, i32_w]
              rfl
            refine last_ (i := 23) (N := some 67) #[true, true, true, true, true, true, true, true, true, true, true, true, true, true, true, true, true, true, true, true, true, true, true, true, false, false] rfl rfl (one_of HT_.out (by kernel_rfl)) (by decide) (fun K hK => ?_)
            refine Kd.R_append_step k69 (w0 := w0) w0.heap.size (by rfl) (.tmp 45) (.tmp 66) 29 69 (.agg #[(.int .i64 0), (.int .i64 0), (.int .i64 0), (.int .i64 0), (.int .i64 0), (.int .i64 0), (.int .i64 0)]) 56 rfl Try.underlying29 info69 rfl (by decide) (by omega) u201000 x201000_1 (⟨(rd_T38 l0_0 x4_1).f0, (⟨(rd_T38 l0_0 x4_1).f1.f0, (rd_T38 l0_0 x4_1).f1.f1, (rd_T38 l0_0 x4_1).f1.f2, (rd_T38 l0_0 x4_1).f1.f3, (rd_T38 l0_0 x4_1).f1.f4, (rd_T38 l0_0 x4_1).f1.f5⟩ : S45)⟩ : S69) [.int .i64 ((rd_T38 l0_0 x4_1).f0), .int .i64 ((rd_T38 l0_0 x4_1).f1.f0), .int .i64 ((rd_T38 l0_0 x4_1).f1.f1), .int .i64 ((rd_T38 l0_0 x4_1).f1.f2), .int .i64 ((rd_T38 l0_0 x4_1).f1.f3), .int .i64 ((rd_T38 l0_0 x4_1).f1.f4), .int .i64 ((rd_T38 l0_0 x4_1).f1.f5)] (fun k_ => (P0_3_ k_ ∨ w.heap.size ≤ k_)) (fun _ => False) rfl rfl ?aP (fun _ hk => hk.elim) ?aF ?aO ?aB ?aS ?aL ?_
            (case aP => exact k69_mkM _ _ _ (⟨(rd_T38 l0_0 x4_1).f0, (⟨(rd_T38 l0_0 x4_1).f1.f0, (rd_T38 l0_0 x4_1).f1.f1, (rd_T38 l0_0 x4_1).f1.f2, (rd_T38 l0_0 x4_1).f1.f3, (rd_T38 l0_0 x4_1).f1.f4, (rd_T38 l0_0 x4_1).f1.f5⟩ : S45)⟩ : S69))
            (case aB => exact (by repeat (first | (with_reducible first | exact HB.out | apply below_alloc | apply pw_below_drewN | apply below_drew1 | refine below_set ?_ GE198.out | refine below_set ?_ GE199.out | refine below_set ?_ GE200.out | refine below_set ?_ GE202.out) | exact HB.out)))
            (case aF => exact (fun k_ hk => (.inr (Nat.le_trans (by first | exact HK.out.1 | exact (show Kept w _ (fun k_ => P0_3_ k_) from by repeat (first | (with_reducible first | exact HK.out | apply Kept.alloc | apply Kept.drewN | apply Kept.drew | refine Kept.setCell ?_ (.inr GW198.out) _ | refine Kept.setCell ?_ (.inr GW199.out) _ | refine Kept.setCell ?_ (.inr GW200.out) _ | refine Kept.setCell ?_ (.inr GW202.out) _) | exact HK.out)).1) hk))))
            (case aO => exact (by (with_reducible repeat (first | apply Kd.R_alloc | apply Kd.R_drewN | apply Kd.R_drew)); exact HO_201000.out))
            (case aS => exact (below_size (by repeat (first | (with_reducible first | exact HB.out | apply below_alloc | apply pw_below_drewN | apply below_drew1 | refine below_set ?_ GE198.out | refine below_set ?_ GE199.out | refine below_set ?_ GE200.out | refine below_set ?_ GE202.out) | exact HB.out))))
            (case aL => have := LMc13.out; omega)
            intro v205 w24 ho hb hg hat
            rw [← Ny204.out] at ho
            have n0_ : Aside0 True := ⟨trivial⟩
            have n1_ : Aside0 True := ⟨trivial⟩
            have n2_ := Aside0.mk (blk_grown (g := gb198) (o := .cells #[.slice (some ad201) l0_0.length c0_0, .int .i64 a0_1, .int .i64 a0_2, .slice Ao2 l0_3.length co2, .int .i64 a0_4, .int .i64 a0_5, .int .i64 a0_6, .int .i64 a0_7, .int .i64 a0_8, .int .i64 a0_9, .int .i64 a0_10, .int .i64 a0_11, .int .i64 a0_12] 25 (0, 0)) (by (with_reducible repeat (first | refine blk_drewN ?_ _ | refine blk_drew ?_ | refine blk_alloc ?_ _)); exact BK198.out) hg (Kd.R_ne HO_201000.out BK198.out (by decide)))
            have n3_ := Aside0.mk (blk_grown (g := gb199) (o := .cells #[.slice none 0 0, .int .i64 0, .int .i64 0, .slice none 0 0, .int .i64 0, .int .i64 0, .int .i64 0, .int .i64 0, .int .i64 0, .int .i64 0, .int .i64 0, .int .i64 0, .int .i64 0] 31 (0, 0)) (by (with_reducible repeat (first | refine blk_drewN ?_ _ | refine blk_drew ?_ | refine blk_alloc ?_ _)); exact BK199.out) hg (Kd.R_ne HO_201000.out BK199.out (by decide)))
            have n4_ := Aside0.mk (blk_grown (g := gb200) (o := .cells #[u201000, .int .i64 a0_1, .int .i64 a0_2, .slice Ao2 l0_3.length co2, .int .i64 a0_4, .int .i64 a0_5, .int .i64 a0_6, .int .i64 a0_7, .int .i64 a0_8, .int .i64 a0_9, .int .i64 a0_10, .int .i64 a0_11, .int .i64 a0_12] 31 (0, 0)) (by (with_reducible repeat (first | refine blk_drewN ?_ _ | refine blk_drew ?_ | refine blk_alloc ?_ _)); exact BK200.out) hg (Kd.R_ne HO_201000.out BK200.out (by decide)))
            have n5_ := Aside0.mk (blk_grown (g := gb202) (o := .cells #[.int .i64 ((rd_T38 l0_0 x4_1).f1.f0), .int .i64 ((rd_T38 l0_0 x4_1).f1.f1), .int .i64 ((rd_T38 l0_0 x4_1).f1.f2), .int .i64 ((rd_T38 l0_0 x4_1).f1.f3), .int .i64 ((rd_T38 l0_0 x4_1).f1.f4), .int .i64 ((rd_T38 l0_0 x4_1).f1.f5)] 36 (0, 0)) (by (with_reducible repeat (first | refine blk_drewN ?_ _ | refine blk_drew ?_ | refine blk_alloc ?_ _)); exact BK202.out) hg (Kd.R_ne HO_201000.out BK202.out (by decide)))
            have n6_ := Aside0.mk (hb)
            have n7_ := Aside0.mk (Kept.of_grown (S := (fun k_ => P0_3_ k_)) hg (by repeat (first | (with_reducible first | exact HK.out | apply Kept.alloc | apply Kept.drewN | apply Kept.drew | refine Kept.setCell ?_ (.inr GW198.out) _ | refine Kept.setCell ?_ (.inr GW199.out) _ | refine Kept.setCell ?_ (.inr GW200.out) _ | refine Kept.setCell ?_ (.inr GW202.out) _) | exact HK.out)) (fun k_ e_ => (HO_201000.out.1 k_ e_)))
            have n8_ := Aside0.mk (ho)
            clear HO_199003
            clear HO_201003
            clear BK198
            clear BK199
            clear BK200
            clear BK202
            clear HB
            clear HK
            clear HO_201000
            have HO_199003 := n0_
            have HO_201003 := n1_
            have BK198 := n2_
            have BK199 := n3_
            have BK200 := n4_
            have BK202 := n5_
            have HB := n6_
            have HK := n7_
            have HO206 := n8_
            clear n0_ n1_ n2_ n3_ n4_ n5_ n6_ n7_ n8_
            clear ho hb hg hat
            obtain ⟨Ao25, co25, eo25⟩ := Kd.R_slice HO206.out
            (first | subst eo25 | (injection eo25 with f1_ f2_ f3_; have f4_ := f1_.symm; have f5_ := f3_.symm; clear f1_ f2_ f3_; subst f4_; subst f5_))
            refine hK.out _ _ ?_
            clear hK K
            refine norm_ (a' := ?_) ?_ ?_
            rotate_left
            · show Act.put _ (some 67) _ = _
              simp only [Act.put, List.setIfInBounds_toArray, List.set_cons_zero, List.set_cons_succ, i64_w, i32_w]
              rfl
            refine pure_ (i := 24) (N := some 68) (v := ?_) (a' := ?_) #[true, true, true, true, true, true, true, true, true, true, true, true, true, true, true, true, true, true, true, true, true, true, true, true, true, false] rfl rfl (any_of HT_.out (by kernel_rfl)) (fun _ _ _ h => h) (Or.inl ⟨by rfl, ?_⟩) ?_ ?_
            rotate_left
            · intro w'
              go_simp
              with_reducible rfl
            rotate_left
            · simp only [Act.put, List.setIfInBounds_toArray, List.set_cons_zero, List.set_cons_succ, i64_w, i32_w]
              rfl
            refine last_ (i := 25) (N := none) #[true, true, true, true, true, true, true, true, true, true, true, true, true, true, true, true, true, true, true, true, true, true, true, true, true, true] rfl rfl (one_of HT_.out (by kernel_rfl)) (by decide) (fun K hK => ?_)
            have hs26 : w24.cell? ⟨gb200, 0, none⟩ = some (u201000) := (blk_cell BK200.out 0).trans rfl
            have hfs26 := blk_frozen BK200.out 0
            have hns26_0 := NB198_200.out
            have hns26_1 := NB199_200.out
            have hns26_3 := NB202_200.out
            have hms26_0 := NB200_198.out
            have hms26_1 := NB200_199.out
            have hms26_3 := NB200_202.out
            refine skip_ (w1 := ?_) (by rfl) rfl ?_ ?_
            rotate_left
            · go_simp
              rfl
            refine hK.out _ _ ?_
            clear hK K
            refine done_ (done_of HT_.out (by kernel_rfl)) ?_
            try go_wp2
            go_roundg k1
            case measure => have := HK1.out; omega
            case rel => exact ⟨(wrap64 (x4_1 + 1)), (y204), (.slice Ao25 y204.length co25), (by first | rfl | (simp; done) | (simp [*]; done)), H', ⟨by have := HK1.out; omega⟩, ⟨trivial⟩, ⟨by (with_reducible repeat (first | apply Kd.R_alloc | apply Kd.R_drewN | apply Kd.R_drew)); exact Kd.R_mono (Kd.R_far (p := ⟨gb200, 0, none⟩) (Kd.R_types HO206.out BK200.out (by decide)) (fun _ hk => hk.2) (.slice Ao25 y204.length co25)) (fun _ hk => hk.1)⟩, ⟨trivial⟩, ⟨by (with_reducible repeat (first | refine blk_drewN ?_ _ | refine blk_drew ?_ | refine blk_alloc ?_ _)); refine blk_far ?_ NB198_200.out _; (with_reducible repeat (first | refine blk_drewN ?_ _ | refine blk_drew ?_ | refine blk_alloc ?_ _)); exact BK198.out⟩, ⟨by (with_reducible repeat (first | refine blk_drewN ?_ _ | refine blk_drew ?_ | refine blk_alloc ?_ _)); refine blk_far ?_ NB199_200.out _; (with_reducible repeat (first | refine blk_drewN ?_ _ | refine blk_drew ?_ | refine blk_alloc ?_ _)); exact BK199.out⟩, ⟨by (with_reducible repeat (first | refine blk_drewN ?_ _ | refine blk_drew ?_ | refine blk_alloc ?_ _)); refine blk_put (cs := #[u201000, .int .i64 a0_1, .int .i64 a0_2, .slice Ao2 l0_3.length co2, .int .i64 a0_4, .int .i64 a0_5, .int .i64 a0_6, .int .i64 a0_7, .int .i64 a0_8, .int .i64 a0_9, .int .i64 a0_10, .int .i64 a0_11, .int .i64 a0_12]) ?_ 0 _ rfl; (with_reducible repeat (first | refine blk_drewN ?_ _ | refine blk_drew ?_ | refine blk_alloc ?_ _)); exact BK200.out⟩, ⟨by repeat (first | (with_reducible first | exact HK.out | apply Kept.alloc | apply Kept.drewN | apply Kept.drew | refine Kept.setCell ?_ (.inr GW198.out) _ | refine Kept.setCell ?_ (.inr GW199.out) _ | refine Kept.setCell ?_ (.inr GW200.out) _ | refine Kept.setCell ?_ (.inr GW202.out) _) | exact HK.out)⟩, ⟨by repeat (first | (with_reducible first | exact HB.out | apply below_alloc | apply pw_below_drewN | apply below_drew1 | refine below_set ?_ GE198.out | refine below_set ?_ GE199.out | refine below_set ?_ GE200.out | refine below_set ?_ GE202.out) | exact HB.out)⟩⟩
          · rw [if_neg c13] at H
            exact absurd H (by simp)
        · rw [if_neg c12] at H
          exact absurd H (by simp)
      · rw [if_neg c11] at H
        have c11b0 : decide (x4_1 < (l0_0.length : Int)) = false := decide_eq_false c11
        clear c11
        simp only [Option.some.injEq, Prod.mk.injEq] at H
        obtain ⟨rfl, rfl, rfl, rfl, rfl, rfl, rfl, rfl, rfl, rfl, rfl, rfl, rfl⟩ := H
        have hnb27 := NB198_199.out
        have hnc27 := NB199_198.out
        have hnb28 := NB198_200.out
        have hnc28 := NB200_198.out
        have hcz29_0 : wr.cell? ⟨gb198, 0, none⟩ = some (.slice A0_0 l0_0.length c0_0) := (blk_cell BK198.out 0).trans rfl
        have hcz29_1 : wr.cell? ⟨gb198, 1, none⟩ = some (.int .i64 a0_1) := (blk_cell BK198.out 1).trans rfl
        have hcz29_2 : wr.cell? ⟨gb198, 2, none⟩ = some (.int .i64 a0_2) := (blk_cell BK198.out 2).trans rfl
        have hcz29_3 : wr.cell? ⟨gb198, 3, none⟩ = some (.slice Ao2 l0_3.length co2) := (blk_cell BK198.out 3).trans rfl
        have hcz29_4 : wr.cell? ⟨gb198, 4, none⟩ = some (.int .i64 a0_4) := (blk_cell BK198.out 4).trans rfl
        have hcz29_5 : wr.cell? ⟨gb198, 5, none⟩ = some (.int .i64 a0_5) := (blk_cell BK198.out 5).trans rfl
        have hcz29_6 : wr.cell? ⟨gb198, 6, none⟩ = some (.int .i64 a0_6) := (blk_cell BK198.out 6).trans rfl
        have hcz29_7 : wr.cell? ⟨gb198, 7, none⟩ = some (.int .i64 a0_7) := (blk_cell BK198.out 7).trans rfl
        have hcz29_8 : wr.cell? ⟨gb198, 8, none⟩ = some (.int .i64 a0_8) := (blk_cell BK198.out 8).trans rfl
        have hcz29_9 : wr.cell? ⟨gb198, 9, none⟩ = some (.int .i64 a0_9) := (blk_cell BK198.out 9).trans rfl
        have hcz29_10 : wr.cell? ⟨gb198, 10, none⟩ = some (.int .i64 a0_10) := (blk_cell BK198.out 10).trans rfl
        have hcz29_11 : wr.cell? ⟨gb198, 11, none⟩ = some (.int .i64 a0_11) := (blk_cell BK198.out 11).trans rfl
        have hcz29_12 : wr.cell? ⟨gb198, 12, none⟩ = some (.int .i64 a0_12) := (blk_cell BK198.out 12).trans rfl
        have hfz29_0 := blk_frozen BK198.out 0
        have hfz29_1 := blk_frozen BK198.out 1
        have hfz29_2 := blk_frozen BK198.out 2
        have hfz29_3 := blk_frozen BK198.out 3
        have hfz29_4 := blk_frozen BK198.out 4
        have hfz29_5 := blk_frozen BK198.out 5
        have hfz29_6 := blk_frozen BK198.out 6
        have hfz29_7 := blk_frozen BK198.out 7
        have hfz29_8 := blk_frozen BK198.out 8
        have hfz29_9 := blk_frozen BK198.out 9
        have hfz29_10 := blk_frozen BK198.out 10
        have hfz29_11 := blk_frozen BK198.out 11
        have hfz29_12 := blk_frozen BK198.out 12
        have hnb30 := NB200_199.out
        have hnc30 := NB199_200.out
        have hcz31_0 : wr.cell? ⟨gb200, 0, none⟩ = some (u201000) := (blk_cell BK200.out 0).trans rfl
        have hcz31_1 : wr.cell? ⟨gb200, 1, none⟩ = some (.int .i64 a0_1) := (blk_cell BK200.out 1).trans rfl
        have hcz31_2 : wr.cell? ⟨gb200, 2, none⟩ = some (.int .i64 a0_2) := (blk_cell BK200.out 2).trans rfl
        have hcz31_3 : wr.cell? ⟨gb200, 3, none⟩ = some (.slice Ao2 l0_3.length co2) := (blk_cell BK200.out 3).trans rfl
        have hcz31_4 : wr.cell? ⟨gb200, 4, none⟩ = some (.int .i64 a0_4) := (blk_cell BK200.out 4).trans rfl
        have hcz31_5 : wr.cell? ⟨gb200, 5, none⟩ = some (.int .i64 a0_5) := (blk_cell BK200.out 5).trans rfl
        have hcz31_6 : wr.cell? ⟨gb200, 6, none⟩ = some (.int .i64 a0_6) := (blk_cell BK200.out 6).trans rfl
        have hcz31_7 : wr.cell? ⟨gb200, 7, none⟩ = some (.int .i64 a0_7) := (blk_cell BK200.out 7).trans rfl
        have hcz31_8 : wr.cell? ⟨gb200, 8, none⟩ = some (.int .i64 a0_8) := (blk_cell BK200.out 8).trans rfl
        have hcz31_9 : wr.cell? ⟨gb200, 9, none⟩ = some (.int .i64 a0_9) := (blk_cell BK200.out 9).trans rfl
        have hcz31_10 : wr.cell? ⟨gb200, 10, none⟩ = some (.int .i64 a0_10) := (blk_cell BK200.out 10).trans rfl
        have hcz31_11 : wr.cell? ⟨gb200, 11, none⟩ = some (.int .i64 a0_11) := (blk_cell BK200.out 11).trans rfl
        have hcz31_12 : wr.cell? ⟨gb200, 12, none⟩ = some (.int .i64 a0_12) := (blk_cell BK200.out 12).trans rfl
        have hfz31_0 := blk_frozen BK200.out 0
        have hfz31_1 := blk_frozen BK200.out 1
        have hfz31_2 := blk_frozen BK200.out 2
        have hfz31_3 := blk_frozen BK200.out 3
        have hfz31_4 := blk_frozen BK200.out 4
        have hfz31_5 := blk_frozen BK200.out 5
        have hfz31_6 := blk_frozen BK200.out 6
        have hfz31_7 := blk_frozen BK200.out 7
        have hfz31_8 := blk_frozen BK200.out 8
        have hfz31_9 := blk_frozen BK200.out 9
        have hfz31_10 := blk_frozen BK200.out 10
        have hfz31_11 := blk_frozen BK200.out 11
        have hfz31_12 := blk_frozen BK200.out 12
        obtain ⟨Ao32, co32, eo32⟩ := Kd.R_slice HO_201000.out
        subst eo32
        have hcz33_0 : wr.cell? ⟨gb199, 0, none⟩ = some (.slice none 0 0) := (blk_cell BK199.out 0).trans rfl
        have hcz33_1 : wr.cell? ⟨gb199, 1, none⟩ = some (.int .i64 0) := (blk_cell BK199.out 1).trans rfl
        have hcz33_2 : wr.cell? ⟨gb199, 2, none⟩ = some (.int .i64 0) := (blk_cell BK199.out 2).trans rfl
        have hcz33_3 : wr.cell? ⟨gb199, 3, none⟩ = some (.slice none 0 0) := (blk_cell BK199.out 3).trans rfl
        have hcz33_4 : wr.cell? ⟨gb199, 4, none⟩ = some (.int .i64 0) := (blk_cell BK199.out 4).trans rfl
        have hcz33_5 : wr.cell? ⟨gb199, 5, none⟩ = some (.int .i64 0) := (blk_cell BK199.out 5).trans rfl
        have hcz33_6 : wr.cell? ⟨gb199, 6, none⟩ = some (.int .i64 0) := (blk_cell BK199.out 6).trans rfl
        have hcz33_7 : wr.cell? ⟨gb199, 7, none⟩ = some (.int .i64 0) := (blk_cell BK199.out 7).trans rfl
        have hcz33_8 : wr.cell? ⟨gb199, 8, none⟩ = some (.int .i64 0) := (blk_cell BK199.out 8).trans rfl
        have hcz33_9 : wr.cell? ⟨gb199, 9, none⟩ = some (.int .i64 0) := (blk_cell BK199.out 9).trans rfl
        have hcz33_10 : wr.cell? ⟨gb199, 10, none⟩ = some (.int .i64 0) := (blk_cell BK199.out 10).trans rfl
        have hcz33_11 : wr.cell? ⟨gb199, 11, none⟩ = some (.int .i64 0) := (blk_cell BK199.out 11).trans rfl
        have hcz33_12 : wr.cell? ⟨gb199, 12, none⟩ = some (.int .i64 0) := (blk_cell BK199.out 12).trans rfl
        have hfz33_0 := blk_frozen BK199.out 0
        have hfz33_1 := blk_frozen BK199.out 1
        have hfz33_2 := blk_frozen BK199.out 2
        have hfz33_3 := blk_frozen BK199.out 3
        have hfz33_4 := blk_frozen BK199.out 4
        have hfz33_5 := blk_frozen BK199.out 5
        have hfz33_6 := blk_frozen BK199.out 6
        have hfz33_7 := blk_frozen BK199.out 7
        have hfz33_8 := blk_frozen BK199.out 8
        have hfz33_9 := blk_frozen BK199.out 9
        have hfz33_10 := blk_frozen BK199.out 10
        have hfz33_11 := blk_frozen BK199.out 11
        have hfz33_12 := blk_frozen BK199.out 12
        go_wp2
        refine bodyPost_ret (results_cell_row rfl _ _ gb199 31 #[.slice Ao32 x201000_1.length co32, .int .i64 a0_1, .int .i64 a0_2, .slice Ao2 l0_3.length co2, .int .i64 a0_4, .int .i64 a0_5, .int .i64 a0_6, .int .i64 a0_7, .int .i64 a0_8, .int .i64 a0_9, .int .i64 a0_10, .int .i64 a0_11, .int .i64 a0_12] (0, 0) _ rfl (by (with_reducible repeat (first | refine blk_drewN ?_ _ | refine blk_drew ?_ | refine blk_alloc ?_ _)); refine blk_put (cs := #[.slice Ao32 x201000_1.length co32, .int .i64 a0_1, .int .i64 a0_2, .slice Ao2 l0_3.length co2, .int .i64 a0_4, .int .i64 a0_5, .int .i64 a0_6, .int .i64 a0_7, .int .i64 a0_8, .int .i64 a0_9, .int .i64 a0_10, .int .i64 a0_11, .int .i64 0]) ?_ 12 _ rfl; (with_reducible repeat (first | refine blk_drewN ?_ _ | refine blk_drew ?_ | refine blk_alloc ?_ _)); refine blk_put (cs := #[.slice Ao32 x201000_1.length co32, .int .i64 a0_1, .int .i64 a0_2, .slice Ao2 l0_3.length co2, .int .i64 a0_4, .int .i64 a0_5, .int .i64 a0_6, .int .i64 a0_7, .int .i64 a0_8, .int .i64 a0_9, .int .i64 a0_10, .int .i64 0, .int .i64 0]) ?_ 11 _ rfl; (with_reducible repeat (first | refine blk_drewN ?_ _ | refine blk_drew ?_ | refine blk_alloc ?_ _)); refine blk_put (cs := #[.slice Ao32 x201000_1.length co32, .int .i64 a0_1, .int .i64 a0_2, .slice Ao2 l0_3.length co2, .int .i64 a0_4, .int .i64 a0_5, .int .i64 a0_6, .int .i64 a0_7, .int .i64 a0_8, .int .i64 a0_9, .int .i64 0, .int .i64 0, .int .i64 0]) ?_ 10 _ rfl; (with_reducible repeat (first | refine blk_drewN ?_ _ | refine blk_drew ?_ | refine blk_alloc ?_ _)); refine blk_put (cs := #[.slice Ao32 x201000_1.length co32, .int .i64 a0_1, .int .i64 a0_2, .slice Ao2 l0_3.length co2, .int .i64 a0_4, .int .i64 a0_5, .int .i64 a0_6, .int .i64 a0_7, .int .i64 a0_8, .int .i64 0, .int .i64 0, .int .i64 0, .int .i64 0]) ?_ 9 _ rfl; (with_reducible repeat (first | refine blk_drewN ?_ _ | refine blk_drew ?_ | refine blk_alloc ?_ _)); refine blk_put (cs := #[.slice Ao32 x201000_1.length co32, .int .i64 a0_1, .int .i64 a0_2, .slice Ao2 l0_3.length co2, .int .i64 a0_4, .int .i64 a0_5, .int .i64 a0_6, .int .i64 a0_7, .int .i64 0, .int .i64 0, .int .i64 0, .int .i64 0, .int .i64 0]) ?_ 8 _ rfl; (with_reducible repeat (first | refine blk_drewN ?_ _ | refine blk_drew ?_ | refine blk_alloc ?_ _)); refine blk_put (cs := #[.slice Ao32 x201000_1.length co32, .int .i64 a0_1, .int .i64 a0_2, .slice Ao2 l0_3.length co2, .int .i64 a0_4, .int .i64 a0_5, .int .i64 a0_6, .int .i64 0, .int .i64 0, .int .i64 0, .int .i64 0, .int .i64 0, .int .i64 0]) ?_ 7 _ rfl; (with_reducible repeat (first | refine blk_drewN ?_ _ | refine blk_drew ?_ | refine blk_alloc ?_ _)); refine blk_put (cs := #[.slice Ao32 x201000_1.length co32, .int .i64 a0_1, .int .i64 a0_2, .slice Ao2 l0_3.length co2, .int .i64 a0_4, .int .i64 a0_5, .int .i64 0, .int .i64 0, .int .i64 0, .int .i64 0, .int .i64 0, .int .i64 0, .int .i64 0]) ?_ 6 _ rfl; (with_reducible repeat (first | refine blk_drewN ?_ _ | refine blk_drew ?_ | refine blk_alloc ?_ _)); refine blk_put (cs := #[.slice Ao32 x201000_1.length co32, .int .i64 a0_1, .int .i64 a0_2, .slice Ao2 l0_3.length co2, .int .i64 a0_4, .int .i64 0, .int .i64 0, .int .i64 0, .int .i64 0, .int .i64 0, .int .i64 0, .int .i64 0, .int .i64 0]) ?_ 5 _ rfl; (with_reducible repeat (first | refine blk_drewN ?_ _ | refine blk_drew ?_ | refine blk_alloc ?_ _)); refine blk_put (cs := #[.slice Ao32 x201000_1.length co32, .int .i64 a0_1, .int .i64 a0_2, .slice Ao2 l0_3.length co2, .int .i64 0, .int .i64 0, .int .i64 0, .int .i64 0, .int .i64 0, .int .i64 0, .int .i64 0, .int .i64 0, .int .i64 0]) ?_ 4 _ rfl; (with_reducible repeat (first | refine blk_drewN ?_ _ | refine blk_drew ?_ | refine blk_alloc ?_ _)); refine blk_put (cs := #[.slice Ao32 x201000_1.length co32, .int .i64 a0_1, .int .i64 a0_2, .slice none 0 0, .int .i64 0, .int .i64 0, .int .i64 0, .int .i64 0, .int .i64 0, .int .i64 0, .int .i64 0, .int .i64 0, .int .i64 0]) ?_ 3 _ rfl; (with_reducible repeat (first | refine blk_drewN ?_ _ | refine blk_drew ?_ | refine blk_alloc ?_ _)); refine blk_put (cs := #[.slice Ao32 x201000_1.length co32, .int .i64 a0_1, .int .i64 0, .slice none 0 0, .int .i64 0, .int .i64 0, .int .i64 0, .int .i64 0, .int .i64 0, .int .i64 0, .int .i64 0, .int .i64 0, .int .i64 0]) ?_ 2 _ rfl; (with_reducible repeat (first | refine blk_drewN ?_ _ | refine blk_drew ?_ | refine blk_alloc ?_ _)); refine blk_put (cs := #[.slice Ao32 x201000_1.length co32, .int .i64 0, .int .i64 0, .slice none 0 0, .int .i64 0, .int .i64 0, .int .i64 0, .int .i64 0, .int .i64 0, .int .i64 0, .int .i64 0, .int .i64 0, .int .i64 0]) ?_ 1 _ rfl; (with_reducible repeat (first | refine blk_drewN ?_ _ | refine blk_drew ?_ | refine blk_alloc ?_ _)); refine blk_put (cs := #[.slice none 0 0, .int .i64 0, .int .i64 0, .slice none 0 0, .int .i64 0, .int .i64 0, .int .i64 0, .int .i64 0, .int .i64 0, .int .i64 0, .int .i64 0, .int .i64 0, .int .i64 0]) ?_ 0 _ rfl; (with_reducible repeat (first | refine blk_drewN ?_ _ | refine blk_drew ?_ | refine blk_alloc ?_ _)); exact BK199.out) Try.underlying31 rfl (by kernel_rfl)) rfl ?_
        exact ⟨ _, by first | rfl | (simp [errW_none, errW_some] <;> rfl) | (simp [*, errW_none, errW_some] <;> rfl), by (with_reducible repeat (first | apply Kd.R_alloc | apply Kd.R_drewN | apply Kd.R_drew)); exact Kd.R_mono (Kd.R_far (p := ⟨gb199, 12, none⟩) (Kd.R_far (p := ⟨gb199, 11, none⟩) (Kd.R_far (p := ⟨gb199, 10, none⟩) (Kd.R_far (p := ⟨gb199, 9, none⟩) (Kd.R_far (p := ⟨gb199, 8, none⟩) (Kd.R_far (p := ⟨gb199, 7, none⟩) (Kd.R_far (p := ⟨gb199, 6, none⟩) (Kd.R_far (p := ⟨gb199, 5, none⟩) (Kd.R_far (p := ⟨gb199, 4, none⟩) (Kd.R_far (p := ⟨gb199, 3, none⟩) (Kd.R_far (p := ⟨gb199, 2, none⟩) (Kd.R_far (p := ⟨gb199, 1, none⟩) (Kd.R_far (p := ⟨gb199, 0, none⟩) (Kd.R_types HO_201000.out BK199.out (by decide)) (fun _ hk => hk.2) (.slice Ao32 x201000_1.length co32)) (fun _ hk => hk.2) (.int .i64 a0_1)) (fun _ hk => hk.2) (.int .i64 a0_2)) (fun _ hk => hk.2) (.slice Ao2 l0_3.length co2)) (fun _ hk => hk.2) (.int .i64 a0_4)) (fun _ hk => hk.2) (.int .i64 a0_5)) (fun _ hk => hk.2) (.int .i64 a0_6)) (fun _ hk => hk.2) (.int .i64 a0_7)) (fun _ hk => hk.2) (.int .i64 a0_8)) (fun _ hk => hk.2) (.int .i64 a0_9)) (fun _ hk => hk.2) (.int .i64 a0_10)) (fun _ hk => hk.2) (.int .i64 a0_11)) (fun _ hk => hk.2) (.int .i64 a0_12)) (fun _ hk => hk.1), by repeat (first | (with_reducible first | exact HB.out | apply below_alloc | apply pw_below_drewN | apply below_drew1 | refine below_set ?_ GE198.out | refine below_set ?_ GE199.out | refine below_set ?_ GE200.out) | exact HB.out), by repeat (first | (with_reducible first | exact HK.out | apply Kept.alloc | apply Kept.drewN | apply Kept.drew | refine Kept.setCell ?_ (.inr GW198.out) _ | refine Kept.setCell ?_ (.inr GW199.out) _ | refine Kept.setCell ?_ (.inr GW200.out) _) | exact HK.out)⟩

end Go.Proofs.Ytomaojmccchibaa.X
