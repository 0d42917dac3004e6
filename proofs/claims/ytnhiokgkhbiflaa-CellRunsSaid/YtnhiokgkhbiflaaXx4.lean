-- Written by a program of this session (wip/xprint/xprint.py runs the kit's print with hand-proved externs).
import Derived.Test.YtnhiokgkhbiflaaXx0
import Derived.Test.YtnhiokgkhbiflaaXx1
import Derived.Test.YtnhiokgkhbiflaaCellAwake
import Derived.Test.YtnhiokgkhbiflaaCellExt
namespace Go.Proofs.Ytnhiokgkhbiflaa.X
open Go.RowKit Go.Proofs.YtnhiokgkhbiflaaW.PrintWords Go.Proofs.YtnhiokgkhbiflaaW.PrintLast Go.Proofs.YtnhiokgkhbiflaaW.PrintMore
attribute [local go_sem] max2_int min2_int max_two min_two max_three min_three max_four min_four   -- for this text's walks alone
set_option linter.unusedVariables false
set_option linter.unusedSimpArgs false

attribute [local go_sem high] eqA25
/-! ### paternosterlaw09_CellRuns: function 4 -/
mutual
def paternosterlaw09_CellRuns.l0 : Nat → Int → List Int → Int → Int → Int → Option (Bool)
  | 0, _, _, _, _, _ => none
  | k + 1, x0, x1, x7, x117000, x117001 => if x7 < (x1.length : Int) then (if 0 ≤ x7 then (if (wrap64 (rd x1 x7)) < 0 then ((cell_Cell_Spend.f x117000 x117001 (wrap64 (-(wrap64 (rd x1 x7))))).bind fun bt119 => (if (bt119.2.2 != (decide (x117000 ≥ (wrap64 (-(wrap64 (rd x1 x7))))))) = true then (paternosterlaw09_CellRuns.j1 k x0 x1 x7 true bt119.1 bt119.2.1) else (if bt119.2.2 = true then (if bt119.1 = (wrap64 (x117000 + (wrap64 (rd x1 x7)))) then (paternosterlaw09_CellRuns.j1 k x0 x1 x7 false bt119.1 bt119.2.1) else (paternosterlaw09_CellRuns.j1 k x0 x1 x7 true bt119.1 bt119.2.1)) else (paternosterlaw09_CellRuns.j1 k x0 x1 x7 (!(bt119.1 == x117000) || (!(bt119.2.1 == x117001))) bt119.1 bt119.2.1)))) else ((cell_Cell_Fill.f x117000 x117001 (wrap64 (rd x1 x7))).bind fun bt123 => (if bt123.1 = (mn (wrap64 (x117000 + (wrap64 (rd x1 x7)))) bt123.2) then (if bt123.1 < 0 then (some false) else (if bt123.1 > bt123.2 then (some false) else (if bt123.2 = (wrap64 (x0)) then (paternosterlaw09_CellRuns.l0 k x0 x1 (wrap64 (x7 + 1)) bt123.1 bt123.2) else (some false)))) else (some false)))) else (none)) else (some true)
def paternosterlaw09_CellRuns.j1 : Nat → Int → List Int → Int → Bool → Int → Int → Option (Bool)
  | 0, _, _, _, _, _, _ => none
  | k + 1, x0, x1, x7, x69, x123000, x123001 => if x69 = true then (some false) else (if x123000 < 0 then (some false) else (if x123000 > x123001 then (some false) else (if x123001 = (wrap64 (x0)) then (paternosterlaw09_CellRuns.l0 k x0 x1 (wrap64 (x7 + 1)) x123000 x123001) else (some false))))
end
def paternosterlaw09_CellRuns.f (k : Nat) (a0 : Int) (l1 : List Int) : Option (Bool) := (paternosterlaw09_awake.f).bind fun t115 => (if t115 = true then (if (l1.length : Int) > 300 then (some true) else (paternosterlaw09_CellRuns.l0 k a0 l1 0 0 (wrap64 (a0)))) else (some false))
theorem paternosterlaw09_CellRuns.mono_l : ∀ k, (∀ y0 y1 y2 y3 y4, LeO (paternosterlaw09_CellRuns.l0 k y0 y1 y2 y3 y4) (paternosterlaw09_CellRuns.l0 (k + 1) y0 y1 y2 y3 y4)) ∧ (∀ y0 y1 y2 y3 y4 y5, LeO (paternosterlaw09_CellRuns.j1 k y0 y1 y2 y3 y4 y5) (paternosterlaw09_CellRuns.j1 (k + 1) y0 y1 y2 y3 y4 y5))
  | 0 => ⟨fun _ _ _ _ _ r h => by simp [paternosterlaw09_CellRuns.l0] at h, fun _ _ _ _ _ _ r h => by simp [paternosterlaw09_CellRuns.j1] at h⟩
  | k + 1 => by
    obtain ⟨ih0, ih1⟩ := paternosterlaw09_CellRuns.mono_l k
    refine ⟨?_, ?_⟩
    · intro y0 y1 y2 y3 y4
      unfold paternosterlaw09_CellRuns.l0
      repeat' first
      | (with_reducible exact ih0 _ _ _ _ _)
      | (with_reducible exact ih1 _ _ _ _ _ _)
      | (with_reducible exact LeO.refl _)
      | (with_reducible exact LeO.none _)
      | (with_reducible refine LeO.ite ?_ ?_)
      | (with_reducible refine LeO.bind ?_ (fun _ => ?_))
      | exact ih0 _ _ _ _ _
      | exact ih1 _ _ _ _ _ _
      | exact LeO.none _
      | refine LeO.ite ?_ ?_
      | refine LeO.bind ?_ (fun _ => ?_)
    · intro y0 y1 y2 y3 y4 y5
      unfold paternosterlaw09_CellRuns.j1
      repeat' first
      | (with_reducible exact ih0 _ _ _ _ _)
      | (with_reducible exact ih1 _ _ _ _ _ _)
      | (with_reducible exact LeO.refl _)
      | (with_reducible exact LeO.none _)
      | (with_reducible refine LeO.ite ?_ ?_)
      | (with_reducible refine LeO.bind ?_ (fun _ => ?_))
      | exact ih0 _ _ _ _ _
      | exact ih1 _ _ _ _ _ _
      | exact LeO.none _
      | refine LeO.ite ?_ ?_
      | refine LeO.bind ?_ (fun _ => ?_)
theorem paternosterlaw09_CellRuns.mono : ∀ a0 a1 k, LeO (paternosterlaw09_CellRuns.f k a0 a1) (paternosterlaw09_CellRuns.f (k + 1) a0 a1) := by
  intro a0 a1 k
  obtain ⟨ih0, ih1⟩ := paternosterlaw09_CellRuns.mono_l k
  unfold paternosterlaw09_CellRuns.f
  repeat' first
      | (with_reducible exact ih0 _ _ _ _ _)
      | (with_reducible exact ih1 _ _ _ _ _ _)
      | (with_reducible exact LeO.refl _)
      | (with_reducible exact LeO.none _)
      | (with_reducible refine LeO.ite ?_ ?_)
      | (with_reducible refine LeO.bind ?_ (fun _ => ?_))
      | exact ih0 _ _ _ _ _
      | exact ih1 _ _ _ _ _ _
      | exact LeO.none _
      | refine LeO.ite ?_ ?_
      | refine LeO.bind ?_ (fun _ => ?_)
set_option maxHeartbeats 8000000 in
set_option maxRecDepth 100000 in
theorem paternosterlaw09_CellRuns.calls (k : Nat) (a0 : Int) (A1 : Option Addr) (c1 : Nat) (l1 : List Int) (r : Bool) (w : World) (hr1 : Kd.C (Kd.int .i16) w A1 l1.length l1) (hc1 : l1.length ≤ c1) (h : paternosterlaw09_CellRuns.f k a0 l1 = some r) :
    Calls Try.prog 4 #[.int .u16 a0, .slice A1 l1.length c1] w fun e w' => e = .returned (.bool r) ∧ Below w.heap.size w w' := by
  have hu25 := Try.underlying25
  have HR1 := Aside0.mk hr1
  have HC1 := Aside0.mk hc1
  clear hr1 hc1
  have HB := Aside0.mk (Below.refl w.heap.size w)
  have H : ((paternosterlaw09_awake.f).bind fun t115 => (if t115 = true then (if (l1.length : Int) > 300 then (some true) else (paternosterlaw09_CellRuns.l0 k a0 l1 0 0 (wrap64 (a0)))) else (some false))) = some r := h
  clear h
  replace H := Option.bind_eq_some_iff.mp H
  obtain ⟨t115, A30, H⟩ := H
  replace H : (if t115 = true then (if (l1.length : Int) > 300 then (some true) else (paternosterlaw09_CellRuns.l0 k a0 l1 0 0 (wrap64 (a0)))) else (some false)) = some r := H
  have A3 := Aside0.mk A30
  clear A30
  by_cases c4 : t115 = true
  · subst c4
    have H1 : (if (l1.length : Int) > 300 then (some true) else (paternosterlaw09_CellRuns.l0 k a0 l1 0 0 (wrap64 (a0)))) = some r := by rw [if_pos rfl] at H; exact H
    clear H
    have H := H1
    clear H1
    by_cases c5 : (l1.length : Int) > 300
    · rw [if_pos c5] at H
      have c5b0 : decide (300 < (l1.length : Int)) = true := decide_eq_true c5
      have c5b1 : decide (300 < l1.length) = true := decide_eq_true (by omega)
      clear c5
      obtain rfl := Option.some.inj H
      go_enter Try.func4, Try.ntmps4
      go_wp2_with (first | ((with_reducible refine gate_callee (f := 16) rfl ?_); refine goesL_ (some 12) rfl rfl Try.func16 (by kernel_rfl) rfl #[] rfl (by (try simp only [List.map_toArray, List.map_cons, List.map_nil]); first | done | rfl | (simp only [List.length_drop, List.length_take]; rfl)) ?_; (with_reducible refine (paternosterlaw09_awake.calls  true _ A3.out).mono ?_); rintro e w6 ⟨rfl, hb⟩; refine ⟨_, rfl, ?_⟩; have n0_ := Aside0.mk (below_step (by repeat (first | (with_reducible first | exact HB.out | apply below_alloc | apply pw_below_drewN | apply below_drew1) | exact HB.out)) hb); clear HB; have HB := n0_; clear n0_; (try clear hb); (try clear hb2); (try clear hk); (try clear hi)))
      go_ret
      exact ⟨by first | rfl | (simp [errW_none, errW_some] <;> rfl) | (simp [*, errW_none, errW_some] <;> rfl), by repeat (first | (with_reducible first | exact HB.out | apply below_alloc | apply pw_below_drewN | apply below_drew1) | exact HB.out)⟩
    · rw [if_neg c5] at H
      have c5b0 : decide (300 < (l1.length : Int)) = false := decide_eq_false c5
      have c5b1 : decide (300 < l1.length) = false := decide_eq_false (by omega)
      clear c5
      have H' := Aside0.mk H
      clear H
      go_enter Try.func4, Try.ntmps4
      go_wp2_with (first | ((with_reducible refine gate_callee (f := 16) rfl ?_); refine goesL_ (some 12) rfl rfl Try.func16 (by kernel_rfl) rfl #[] rfl (by (try simp only [List.map_toArray, List.map_cons, List.map_nil]); first | done | rfl | (simp only [List.length_drop, List.length_take]; rfl)) ?_; (with_reducible refine (paternosterlaw09_awake.calls  true _ A3.out).mono ?_); rintro e w7 ⟨rfl, hb⟩; refine ⟨_, rfl, ?_⟩; have n0_ := Aside0.mk (below_step (by repeat (first | (with_reducible first | exact HB.out | apply below_alloc | apply pw_below_drewN | apply below_drew1) | exact HB.out)) hb); clear HB; have HB := n0_; clear n0_; (try clear hb); (try clear hb2); (try clear hk); (try clear hi)) | ((with_reducible refine gate_dst (N := 6) rfl ?_); refine box_event ?hg (N := 6) ?hd (cs := #[.int .i64 0, .int .i64 0]) (t := 25) ?hr ?_; (case hd => rfl); (case hg => rfl); (case hr => first | (go_simp; done) | (go_simp; rfl)); intro gb116 hg w8 hbox hb; have n0_ := Aside0.mk (below_step (by repeat (first | (with_reducible first | exact HB.out | apply below_alloc | apply pw_below_drewN | apply below_drew1) | exact HB.out)) hb); have n1_ := Aside0.mk (hbox); have n2_ := Aside0.mk ((by rw [hg]; exact (below_size (by repeat (first | (with_reducible first | exact HB.out | apply below_alloc | apply pw_below_drewN | apply below_drew1) | exact HB.out))) : w.heap.size ≤ gb116)); have n3_ := Aside0.mk ((by rw [hg]; exact (below_size (by repeat (first | (with_reducible first | exact HB.out | apply below_alloc | apply pw_below_drewN | apply below_drew1) | exact HB.out))) : w.heap.size ≤ gb116)); clear HB; have HB := n0_; have BK116 := n1_; have GW116 := n2_; have GE116 := n3_; clear n0_ n1_ n2_ n3_; clear hb hbox hg; have hcz9_0 : w8.cell? ⟨gb116, 0, none⟩ = some (.int .i64 0) := (blk_cell BK116.out 0).trans rfl; have hcz9_1 : w8.cell? ⟨gb116, 1, none⟩ = some (.int .i64 0) := (blk_cell BK116.out 1).trans rfl; have hfz9_0 := blk_frozen BK116.out 0; have hfz9_1 := blk_frozen BK116.out 1))
      go_loopg [7] k (fun kq v7 w' => ∃ (x7_1 : Int) (x117000_1 : Int) (x117001_1 : Int), v7 = .int .i64 x7_1 ∧ Aside0 (paternosterlaw09_CellRuns.l0 kq a0 l1 x7_1 x117000_1 x117001_1 = some r) ∧ Aside0 (kq ≤ k) ∧ Aside0 (w'.heap[gb116]? = some (.cells #[.int .i64 x117000_1, .int .i64 x117001_1] 25 (0, 0))) ∧ Aside0 (Below w.heap.size w w'))
      case atStart => exact ⟨(0), (0), (wrap64 (a0)), (by first | rfl | (simp; done) | (simp [*]; done)), H', ⟨Nat.le_refl _⟩, ⟨by (with_reducible repeat (first | refine blk_drewN ?_ _ | refine blk_drew ?_ | refine blk_alloc ?_ _)); refine blk_put (cs := #[.int .i64 0, .int .i64 0]) ?_ 1 _ rfl; (with_reducible repeat (first | refine blk_drewN ?_ _ | refine blk_drew ?_ | refine blk_alloc ?_ _)); refine blk_put (cs := #[.int .i64 0, .int .i64 0]) ?_ 0 _ rfl; (with_reducible repeat (first | refine blk_drewN ?_ _ | refine blk_drew ?_ | refine blk_alloc ?_ _)); exact BK116.out⟩, ⟨by repeat (first | (with_reducible first | exact HB.out | apply below_alloc | apply pw_below_drewN | apply below_drew1 | refine below_set ?_ GE116.out) | exact HB.out)⟩⟩
      case round =>
        clear H'
        try clear c1
        try clear p2
        try clear c4
        try clear c5
        try clear c5b0
        try clear c5b1
        try clear p6
        try clear hcz9_0
        try clear hcz9_1
        try clear hfz9_0
        try clear hfz9_1
        obtain ⟨x7_1, x117000_1, x117001_1, rfl, HA, HK1, BK116, HB⟩ := hrel
        cases gk with
        | zero => exact absurd HA.out (by simp [paternosterlaw09_CellRuns.l0])
        | succ k1 =>
          have H := HA.out
          clear HA
          simp only [paternosterlaw09_CellRuns.l0] at H
          by_cases c10 : x7_1 < (l1.length : Int)
          · rw [if_pos c10] at H
            have c10b0 : decide (x7_1 < (l1.length : Int)) = true := decide_eq_true c10
            clear c10
            by_cases c11 : 0 ≤ x7_1
            · rw [if_pos c11] at H
              have c11b0 : decide (0 ≤ x7_1) = true := decide_eq_true c11
              clear c11
              by_cases c12 : (wrap64 (rd l1 x7_1)) < 0
              · rw [if_pos c12] at H
                have c12b0 : decide ((wrap64 (rd l1 x7_1)) < 0) = true := decide_eq_true c12
                clear c12
                replace H := Option.bind_eq_some_iff.mp H
                obtain ⟨⟨t119, t120, t121⟩, A130, H⟩ := H
                replace H : (if (t121 != (decide (x117000_1 ≥ (wrap64 (-(wrap64 (rd l1 x7_1))))))) = true then (paternosterlaw09_CellRuns.j1 k1 a0 l1 x7_1 true t119 t120) else (if t121 = true then (if t119 = (wrap64 (x117000_1 + (wrap64 (rd l1 x7_1)))) then (paternosterlaw09_CellRuns.j1 k1 a0 l1 x7_1 false t119 t120) else (paternosterlaw09_CellRuns.j1 k1 a0 l1 x7_1 true t119 t120)) else (paternosterlaw09_CellRuns.j1 k1 a0 l1 x7_1 (!(t119 == x117000_1) || (!(t120 == x117001_1))) t119 t120))) = some r := H
                have A13 := Aside0.mk A130
                clear A130
                have HC14 := Aside0.mk H
                clear H
                have hcz15_0 : wr.cell? ⟨gb116, 0, none⟩ = some (.int .i64 x117000_1) := (blk_cell BK116.out 0).trans rfl
                have hcz15_1 : wr.cell? ⟨gb116, 1, none⟩ = some (.int .i64 x117001_1) := (blk_cell BK116.out 1).trans rfl
                have hfz15_0 := blk_frozen BK116.out 0
                have hfz15_1 := blk_frozen BK116.out 1
                go_upto_region 14 with (first | ((with_reducible refine gate_dst (N := 8) rfl ?_); refine box_event ?hg (N := 8) ?hd (cs := #[.int .i64 0, .int .i64 0]) (t := 25) ?hr ?_; (case hd => rfl); (case hg => rfl); (case hr => first | (go_simp; done) | (go_simp; rfl)); intro gb117 hg w16 hbox hb; have n0_ := Aside0.mk (blk_below (g := gb116) (o := .cells #[.int .i64 x117000_1, .int .i64 x117001_1] 25 (0, 0)) (by (with_reducible repeat (first | refine blk_drewN ?_ _ | refine blk_drew ?_ | refine blk_alloc ?_ _)); exact BK116.out) hb); have n1_ := Aside0.mk (below_step (by repeat (first | (with_reducible first | exact HB.out | apply below_alloc | apply pw_below_drewN | apply below_drew1 | refine below_set ?_ GE116.out) | exact HB.out)) hb); have n2_ := Aside0.mk (hbox); have n3_ := Aside0.mk ((by rw [hg]; exact (below_size (by repeat (first | (with_reducible first | exact HB.out | apply below_alloc | apply pw_below_drewN | apply below_drew1 | refine below_set ?_ GE116.out) | exact HB.out))) : w.heap.size ≤ gb117)); have n4_ := Aside0.mk ((by rw [hg]; exact (below_size (by repeat (first | (with_reducible first | exact HB.out | apply below_alloc | apply pw_below_drewN | apply below_drew1 | refine below_set ?_ GE116.out) | exact HB.out))) : w.heap.size ≤ gb117)); have n5_ := Aside0.mk ((by rw [hg]; exact Nat.ne_of_lt (blk_lt (g := gb116) (o := .cells #[.int .i64 x117000_1, .int .i64 x117001_1] 25 (0, 0)) (by (with_reducible repeat (first | refine blk_drewN ?_ _ | refine blk_drew ?_ | refine blk_alloc ?_ _)); exact BK116.out)) : gb116 ≠ gb117)); have n6_ := Aside0.mk ((by rw [hg]; exact Nat.ne_of_gt (blk_lt (g := gb116) (o := .cells #[.int .i64 x117000_1, .int .i64 x117001_1] 25 (0, 0)) (by (with_reducible repeat (first | refine blk_drewN ?_ _ | refine blk_drew ?_ | refine blk_alloc ?_ _)); exact BK116.out)) : gb117 ≠ gb116)); clear BK116; clear HB; have BK116 := n0_; have HB := n1_; have BK117 := n2_; have GW117 := n3_; have GE117 := n4_; have NB116_117 := n5_; have NB117_116 := n6_; clear n0_ n1_ n2_ n3_ n4_ n5_ n6_; clear hb hbox hg; have hnb17 := NB117_116.out; have hnc17 := NB116_117.out; have hcz18_0 : w16.cell? ⟨gb117, 0, none⟩ = some (.int .i64 0) := (blk_cell BK117.out 0).trans rfl; have hcz18_1 : w16.cell? ⟨gb117, 1, none⟩ = some (.int .i64 0) := (blk_cell BK117.out 1).trans rfl; have hfz18_0 := blk_frozen BK117.out 0; have hfz18_1 := blk_frozen BK117.out 1; have p118 : 0 ≤ (x7_1 : Int) := of_decide_eq_true (by first | (with_reducible assumption) | assumption); have q118 : x7_1 < (l1.length : Int) := of_decide_eq_true (by first | (with_reducible assumption) | assumption); obtain ⟨ad118, e118, hx118_0⟩ := Kd.at_int HR1.out x7_1 p118 q118; cases e118; have hn118_0 : ad118.block ≠ gb117 := Nat.ne_of_lt (Nat.lt_of_lt_of_le (by have := World.block_lt_of_cell? _ _ hx118_0; first | rwa [add_block] at this | exact this) GW117.out); have hn118_1 : ad118.block ≠ gb117 := Nat.ne_of_lt (Nat.lt_of_lt_of_le (by have := World.block_lt_of_cell? _ _ hx118_0; first | rwa [add_block] at this | exact this) GW117.out); replace hx118_0 := (HB.out.cell (World.block_lt_of_cell? w _ hx118_0)).trans hx118_0; replace hx118_0 := (cell_far (p := ⟨gb117, 0, none⟩) (by first | (rw [add_block]; exact hn118_0) | (show (Addr.add _ _).block ≠ _; rw [add_block]; exact hn118_0) | exact hn118_0) (.int .i64 x117000_1)).trans hx118_0; replace hx118_0 := (cell_far (p := ⟨gb117, 1, none⟩) (by first | (rw [add_block]; exact hn118_1) | (show (Addr.add _ _).block ≠ _; rw [add_block]; exact hn118_1) | exact hn118_1) (.int .i64 x117001_1)).trans hx118_0; clear hn118_0; clear hn118_1; replace p118 := eq_true p118; replace q118 := eq_true q118; have hcz19_0 : w16.cell? ⟨gb116, 0, none⟩ = some (.int .i64 x117000_1) := (blk_cell BK116.out 0).trans rfl; have hcz19_1 : w16.cell? ⟨gb116, 1, none⟩ = some (.int .i64 x117001_1) := (blk_cell BK116.out 1).trans rfl; have hfz19_0 := blk_frozen BK116.out 0; have hfz19_1 := blk_frozen BK116.out 1) | ((with_reducible refine gate_callee (f := 17) rfl ?_); refine goesL_ (some 39) rfl rfl Try.func17 (by kernel_rfl) rfl #[.agg #[.int .i64 x117000_1, .int .i64 x117001_1], .int .i64 (wrap64 (-(wrap64 (rd l1 x7_1))))] rfl (by (try simp only [List.map_toArray, List.map_cons, List.map_nil]); first | done | rfl | (simp only [List.length_drop, List.length_take]; rfl)) ?_; (with_reducible refine (cell_Cell_Spend.calls x117000_1 x117001_1 (wrap64 (-(wrap64 (rd l1 x7_1)))) t119 t120 t121 _ A13.out).mono ?_); rintro e w20 ⟨rfl, hb⟩; refine ⟨_, rfl, ?_⟩; have n0_ := Aside0.mk (blk_below (g := gb116) (o := .cells #[.int .i64 x117000_1, .int .i64 x117001_1] 25 (0, 0)) (by (with_reducible repeat (first | refine blk_drewN ?_ _ | refine blk_drew ?_ | refine blk_alloc ?_ _)); refine blk_far ?_ NB116_117.out _; (with_reducible repeat (first | refine blk_drewN ?_ _ | refine blk_drew ?_ | refine blk_alloc ?_ _)); refine blk_far ?_ NB116_117.out _; (with_reducible repeat (first | refine blk_drewN ?_ _ | refine blk_drew ?_ | refine blk_alloc ?_ _)); exact BK116.out) hb); have n1_ := Aside0.mk (blk_below (g := gb117) (o := .cells #[.int .i64 x117000_1, .int .i64 x117001_1] 25 (0, 0)) (by (with_reducible repeat (first | refine blk_drewN ?_ _ | refine blk_drew ?_ | refine blk_alloc ?_ _)); refine blk_put (cs := #[.int .i64 x117000_1, .int .i64 0]) ?_ 1 _ rfl; (with_reducible repeat (first | refine blk_drewN ?_ _ | refine blk_drew ?_ | refine blk_alloc ?_ _)); refine blk_put (cs := #[.int .i64 0, .int .i64 0]) ?_ 0 _ rfl; (with_reducible repeat (first | refine blk_drewN ?_ _ | refine blk_drew ?_ | refine blk_alloc ?_ _)); exact BK117.out) hb); have n2_ := Aside0.mk (below_step (by repeat (first | (with_reducible first | exact HB.out | apply below_alloc | apply pw_below_drewN | apply below_drew1 | refine below_set ?_ GE116.out | refine below_set ?_ GE117.out) | exact HB.out)) hb); clear BK116; clear BK117; clear HB; have BK116 := n0_; have BK117 := n1_; have HB := n2_; clear n0_ n1_ n2_; (try clear hb); (try clear hb2); (try clear hk); (try clear hi)) | ((with_reducible refine gate_dst (N := 10) rfl ?_); refine box_event ?hg (N := 10) ?hd (cs := #[.int .i64 0, .int .i64 0]) (t := 25) ?hr ?_; (case hd => rfl); (case hg => rfl); (case hr => first | (go_simp; done) | (go_simp; rfl)); intro gb122 hg w21 hbox hb; have n0_ := Aside0.mk (blk_below (g := gb116) (o := .cells #[.int .i64 x117000_1, .int .i64 x117001_1] 25 (0, 0)) (by (with_reducible repeat (first | refine blk_drewN ?_ _ | refine blk_drew ?_ | refine blk_alloc ?_ _)); exact BK116.out) hb); have n1_ := Aside0.mk (blk_below (g := gb117) (o := .cells #[.int .i64 x117000_1, .int .i64 x117001_1] 25 (0, 0)) (by (with_reducible repeat (first | refine blk_drewN ?_ _ | refine blk_drew ?_ | refine blk_alloc ?_ _)); exact BK117.out) hb); have n2_ := Aside0.mk (below_step (by repeat (first | (with_reducible first | exact HB.out | apply below_alloc | apply pw_below_drewN | apply below_drew1 | refine below_set ?_ GE116.out | refine below_set ?_ GE117.out) | exact HB.out)) hb); have n3_ := Aside0.mk (hbox); have n4_ := Aside0.mk ((by rw [hg]; exact (below_size (by repeat (first | (with_reducible first | exact HB.out | apply below_alloc | apply pw_below_drewN | apply below_drew1 | refine below_set ?_ GE116.out | refine below_set ?_ GE117.out) | exact HB.out))) : w.heap.size ≤ gb122)); have n5_ := Aside0.mk ((by rw [hg]; exact (below_size (by repeat (first | (with_reducible first | exact HB.out | apply below_alloc | apply pw_below_drewN | apply below_drew1 | refine below_set ?_ GE116.out | refine below_set ?_ GE117.out) | exact HB.out))) : w.heap.size ≤ gb122)); have n6_ := Aside0.mk ((by rw [hg]; exact Nat.ne_of_lt (blk_lt (g := gb116) (o := .cells #[.int .i64 x117000_1, .int .i64 x117001_1] 25 (0, 0)) (by (with_reducible repeat (first | refine blk_drewN ?_ _ | refine blk_drew ?_ | refine blk_alloc ?_ _)); exact BK116.out)) : gb116 ≠ gb122)); have n7_ := Aside0.mk ((by rw [hg]; exact Nat.ne_of_gt (blk_lt (g := gb116) (o := .cells #[.int .i64 x117000_1, .int .i64 x117001_1] 25 (0, 0)) (by (with_reducible repeat (first | refine blk_drewN ?_ _ | refine blk_drew ?_ | refine blk_alloc ?_ _)); exact BK116.out)) : gb122 ≠ gb116)); have n8_ := Aside0.mk ((by rw [hg]; exact Nat.ne_of_lt (blk_lt (g := gb117) (o := .cells #[.int .i64 x117000_1, .int .i64 x117001_1] 25 (0, 0)) (by (with_reducible repeat (first | refine blk_drewN ?_ _ | refine blk_drew ?_ | refine blk_alloc ?_ _)); exact BK117.out)) : gb117 ≠ gb122)); have n9_ := Aside0.mk ((by rw [hg]; exact Nat.ne_of_gt (blk_lt (g := gb117) (o := .cells #[.int .i64 x117000_1, .int .i64 x117001_1] 25 (0, 0)) (by (with_reducible repeat (first | refine blk_drewN ?_ _ | refine blk_drew ?_ | refine blk_alloc ?_ _)); exact BK117.out)) : gb122 ≠ gb117)); clear BK116; clear BK117; clear HB; have BK116 := n0_; have BK117 := n1_; have HB := n2_; have BK122 := n3_; have GW122 := n4_; have GE122 := n5_; have NB116_122 := n6_; have NB122_116 := n7_; have NB117_122 := n8_; have NB122_117 := n9_; clear n0_ n1_ n2_ n3_ n4_ n5_ n6_ n7_ n8_ n9_; clear hb hbox hg; have hnb22 := NB122_116.out; have hnc22 := NB116_122.out; have hnb23 := NB122_117.out; have hnc23 := NB117_122.out; have hcz24_0 : w21.cell? ⟨gb122, 0, none⟩ = some (.int .i64 0) := (blk_cell BK122.out 0).trans rfl; have hcz24_1 : w21.cell? ⟨gb122, 1, none⟩ = some (.int .i64 0) := (blk_cell BK122.out 1).trans rfl; have hfz24_0 := blk_frozen BK122.out 0; have hfz24_1 := blk_frozen BK122.out 1))
                (try simp only [Act.put, List.setIfInBounds_toArray, List.set_cons_zero, List.set_cons_succ])
                go_cut [69] (fun v69 wc => ∃ (kq : Nat) (x69_13 : Bool), v69 = .bool x69_13 ∧ Aside0 (paternosterlaw09_CellRuns.j1 kq a0 l1 x7_1 x69_13 t119 t120 = some r) ∧ Aside0 (kq ≤ k1) ∧ Aside0 (wc.heap[gb116]? = some (.cells #[.int .i64 x117000_1, .int .i64 x117001_1] 25 (0, 0))) ∧ Aside0 (wc.heap[gb117]? = some (.cells #[.int .i64 x117000_1, .int .i64 x117001_1] 25 (0, 0))) ∧ Aside0 (wc.heap[gb122]? = some (.cells #[.int .i64 t119, .int .i64 t120] 25 (0, 0))) ∧ Aside0 (Below w.heap.size w wc))
                case first =>
                  have H := HC14.out
                  clear HC14
                  by_cases c25 : (t121 != (decide (x117000_1 ≥ (wrap64 (-(wrap64 (rd l1 x7_1))))))) = true
                  · rw [if_pos c25] at H
                    have c25b0 : (t121 != (decide (x117000_1 ≥ (wrap64 (-(wrap64 (rd l1 x7_1))))))) = true := c25
                    (try (have c25b1 : decide (t121 = (decide (x117000_1 ≥ (wrap64 (-(wrap64 (rd l1 x7_1))))))) = false := by simpa using c25))
                    (try (have c25b2 : (t121 == (decide (x117000_1 ≥ (wrap64 (-(wrap64 (rd l1 x7_1))))))) = false := by simpa using c25))
                    (try (have c25b3 : ¬ (t121 = (decide (x117000_1 ≥ (wrap64 (-(wrap64 (rd l1 x7_1))))))) := by simpa using c25))
                    clear c25
                    (first | rw [c25b0] | (simp only [i64_w, i32_w]; rw [c25b0]) | skip)
                    have H' := Aside0.mk H
                    clear H
                    have hnb26 := NB117_116.out
                    have hnc26 := NB116_117.out
                    have hnb27 := NB117_122.out
                    have hnc27 := NB122_117.out
                    have hcz28_0 : w21.cell? ⟨gb117, 0, none⟩ = some (.int .i64 x117000_1) := (blk_cell BK117.out 0).trans rfl
                    have hcz28_1 : w21.cell? ⟨gb117, 1, none⟩ = some (.int .i64 x117001_1) := (blk_cell BK117.out 1).trans rfl
                    have hfz28_0 := blk_frozen BK117.out 0
                    have hfz28_1 := blk_frozen BK117.out 1
                    go_wp2
                    go_meet
                    case rel => exact ⟨_, (true), (by first | rfl | (simp; done) | (simp [*]; done)), H', ⟨by have := HK1.out; first | omega | exact Nat.le_refl _⟩, ⟨by (with_reducible repeat (first | refine blk_drewN ?_ _ | refine blk_drew ?_ | refine blk_alloc ?_ _)); refine blk_far ?_ NB116_122.out _; (with_reducible repeat (first | refine blk_drewN ?_ _ | refine blk_drew ?_ | refine blk_alloc ?_ _)); refine blk_far ?_ NB116_122.out _; (with_reducible repeat (first | refine blk_drewN ?_ _ | refine blk_drew ?_ | refine blk_alloc ?_ _)); exact BK116.out⟩, ⟨by (with_reducible repeat (first | refine blk_drewN ?_ _ | refine blk_drew ?_ | refine blk_alloc ?_ _)); refine blk_far ?_ NB117_122.out _; (with_reducible repeat (first | refine blk_drewN ?_ _ | refine blk_drew ?_ | refine blk_alloc ?_ _)); refine blk_far ?_ NB117_122.out _; (with_reducible repeat (first | refine blk_drewN ?_ _ | refine blk_drew ?_ | refine blk_alloc ?_ _)); exact BK117.out⟩, ⟨by (with_reducible repeat (first | refine blk_drewN ?_ _ | refine blk_drew ?_ | refine blk_alloc ?_ _)); refine blk_put (cs := #[.int .i64 t119, .int .i64 0]) ?_ 1 _ rfl; (with_reducible repeat (first | refine blk_drewN ?_ _ | refine blk_drew ?_ | refine blk_alloc ?_ _)); refine blk_put (cs := #[.int .i64 0, .int .i64 0]) ?_ 0 _ rfl; (with_reducible repeat (first | refine blk_drewN ?_ _ | refine blk_drew ?_ | refine blk_alloc ?_ _)); exact BK122.out⟩, ⟨by repeat (first | (with_reducible first | exact HB.out | apply below_alloc | apply pw_below_drewN | apply below_drew1 | refine below_set ?_ GE116.out | refine below_set ?_ GE117.out | refine below_set ?_ GE122.out) | exact HB.out)⟩⟩
                  · rw [if_neg c25] at H
                    have c25b0 : (t121 != (decide (x117000_1 ≥ (wrap64 (-(wrap64 (rd l1 x7_1))))))) = false := by simpa using c25
                    (try (have c25b1 : decide (t121 = (decide (x117000_1 ≥ (wrap64 (-(wrap64 (rd l1 x7_1))))))) = true := by simpa using c25))
                    (try (have c25b2 : (t121 == (decide (x117000_1 ≥ (wrap64 (-(wrap64 (rd l1 x7_1))))))) = true := by simpa using c25))
                    clear c25
                    (first | rw [c25b0] | (simp only [i64_w, i32_w]; rw [c25b0]) | skip)
                    by_cases c29 : t121 = true
                    · subst c29
                      have H1 : (if t119 = (wrap64 (x117000_1 + (wrap64 (rd l1 x7_1)))) then (paternosterlaw09_CellRuns.j1 k1 a0 l1 x7_1 false t119 t120) else (paternosterlaw09_CellRuns.j1 k1 a0 l1 x7_1 true t119 t120)) = some r := by rw [if_pos rfl] at H; exact H
                      clear H
                      have H := H1
                      clear H1
                      by_cases c30 : t119 = (wrap64 (x117000_1 + (wrap64 (rd l1 x7_1))))
                      · rw [if_pos c30] at H
                        have c30b0 : (t119 == (wrap64 (x117000_1 + (wrap64 (rd l1 x7_1))))) = true := beq_iff_eq.mpr c30
                        have c30b1 : (t119 != (wrap64 (x117000_1 + (wrap64 (rd l1 x7_1))))) = false := bne_eq_false_iff_eq.mpr c30
                        clear c30
                        have H' := Aside0.mk H
                        clear H
                        have hnb31 := NB117_116.out
                        have hnc31 := NB116_117.out
                        have hnb32 := NB117_122.out
                        have hnc32 := NB122_117.out
                        have hcz33_0 : w21.cell? ⟨gb117, 0, none⟩ = some (.int .i64 x117000_1) := (blk_cell BK117.out 0).trans rfl
                        have hcz33_1 : w21.cell? ⟨gb117, 1, none⟩ = some (.int .i64 x117001_1) := (blk_cell BK117.out 1).trans rfl
                        have hfz33_0 := blk_frozen BK117.out 0
                        have hfz33_1 := blk_frozen BK117.out 1
                        have hnb34 := NB122_116.out
                        have hnc34 := NB116_122.out
                        have hcz35_0 : w21.cell? ⟨gb122, 0, none⟩ = some (.int .i64 0) := (blk_cell BK122.out 0).trans rfl
                        have hcz35_1 : w21.cell? ⟨gb122, 1, none⟩ = some (.int .i64 0) := (blk_cell BK122.out 1).trans rfl
                        have hfz35_0 := blk_frozen BK122.out 0
                        have hfz35_1 := blk_frozen BK122.out 1
                        go_wp2
                        go_meet
                        case rel => exact ⟨_, (false), (by first | rfl | (simp; done) | (simp [*]; done)), H', ⟨by have := HK1.out; first | omega | exact Nat.le_refl _⟩, ⟨by (with_reducible repeat (first | refine blk_drewN ?_ _ | refine blk_drew ?_ | refine blk_alloc ?_ _)); refine blk_far ?_ NB116_122.out _; (with_reducible repeat (first | refine blk_drewN ?_ _ | refine blk_drew ?_ | refine blk_alloc ?_ _)); refine blk_far ?_ NB116_122.out _; (with_reducible repeat (first | refine blk_drewN ?_ _ | refine blk_drew ?_ | refine blk_alloc ?_ _)); exact BK116.out⟩, ⟨by (with_reducible repeat (first | refine blk_drewN ?_ _ | refine blk_drew ?_ | refine blk_alloc ?_ _)); refine blk_far ?_ NB117_122.out _; (with_reducible repeat (first | refine blk_drewN ?_ _ | refine blk_drew ?_ | refine blk_alloc ?_ _)); refine blk_far ?_ NB117_122.out _; (with_reducible repeat (first | refine blk_drewN ?_ _ | refine blk_drew ?_ | refine blk_alloc ?_ _)); exact BK117.out⟩, ⟨by (with_reducible repeat (first | refine blk_drewN ?_ _ | refine blk_drew ?_ | refine blk_alloc ?_ _)); refine blk_put (cs := #[.int .i64 t119, .int .i64 0]) ?_ 1 _ rfl; (with_reducible repeat (first | refine blk_drewN ?_ _ | refine blk_drew ?_ | refine blk_alloc ?_ _)); refine blk_put (cs := #[.int .i64 0, .int .i64 0]) ?_ 0 _ rfl; (with_reducible repeat (first | refine blk_drewN ?_ _ | refine blk_drew ?_ | refine blk_alloc ?_ _)); exact BK122.out⟩, ⟨by repeat (first | (with_reducible first | exact HB.out | apply below_alloc | apply pw_below_drewN | apply below_drew1 | refine below_set ?_ GE116.out | refine below_set ?_ GE117.out | refine below_set ?_ GE122.out) | exact HB.out)⟩⟩
                      · rw [if_neg c30] at H
                        have c30b0 : (t119 == (wrap64 (x117000_1 + (wrap64 (rd l1 x7_1))))) = false := beq_eq_false_iff_ne.mpr c30
                        have c30b1 : (t119 != (wrap64 (x117000_1 + (wrap64 (rd l1 x7_1))))) = true := bne_iff_ne.mpr c30
                        have H' := Aside0.mk H
                        clear H
                        have hnb36 := NB117_116.out
                        have hnc36 := NB116_117.out
                        have hnb37 := NB117_122.out
                        have hnc37 := NB122_117.out
                        have hcz38_0 : w21.cell? ⟨gb117, 0, none⟩ = some (.int .i64 x117000_1) := (blk_cell BK117.out 0).trans rfl
                        have hcz38_1 : w21.cell? ⟨gb117, 1, none⟩ = some (.int .i64 x117001_1) := (blk_cell BK117.out 1).trans rfl
                        have hfz38_0 := blk_frozen BK117.out 0
                        have hfz38_1 := blk_frozen BK117.out 1
                        have hnb39 := NB122_116.out
                        have hnc39 := NB116_122.out
                        have hcz40_0 : w21.cell? ⟨gb122, 0, none⟩ = some (.int .i64 0) := (blk_cell BK122.out 0).trans rfl
                        have hcz40_1 : w21.cell? ⟨gb122, 1, none⟩ = some (.int .i64 0) := (blk_cell BK122.out 1).trans rfl
                        have hfz40_0 := blk_frozen BK122.out 0
                        have hfz40_1 := blk_frozen BK122.out 1
                        go_wp2
                        go_meet
                        case rel => exact ⟨_, (true), (by first | rfl | (simp; done) | (simp [*]; done)), H', ⟨by have := HK1.out; first | omega | exact Nat.le_refl _⟩, ⟨by (with_reducible repeat (first | refine blk_drewN ?_ _ | refine blk_drew ?_ | refine blk_alloc ?_ _)); refine blk_far ?_ NB116_122.out _; (with_reducible repeat (first | refine blk_drewN ?_ _ | refine blk_drew ?_ | refine blk_alloc ?_ _)); refine blk_far ?_ NB116_122.out _; (with_reducible repeat (first | refine blk_drewN ?_ _ | refine blk_drew ?_ | refine blk_alloc ?_ _)); exact BK116.out⟩, ⟨by (with_reducible repeat (first | refine blk_drewN ?_ _ | refine blk_drew ?_ | refine blk_alloc ?_ _)); refine blk_far ?_ NB117_122.out _; (with_reducible repeat (first | refine blk_drewN ?_ _ | refine blk_drew ?_ | refine blk_alloc ?_ _)); refine blk_far ?_ NB117_122.out _; (with_reducible repeat (first | refine blk_drewN ?_ _ | refine blk_drew ?_ | refine blk_alloc ?_ _)); exact BK117.out⟩, ⟨by (with_reducible repeat (first | refine blk_drewN ?_ _ | refine blk_drew ?_ | refine blk_alloc ?_ _)); refine blk_put (cs := #[.int .i64 t119, .int .i64 0]) ?_ 1 _ rfl; (with_reducible repeat (first | refine blk_drewN ?_ _ | refine blk_drew ?_ | refine blk_alloc ?_ _)); refine blk_put (cs := #[.int .i64 0, .int .i64 0]) ?_ 0 _ rfl; (with_reducible repeat (first | refine blk_drewN ?_ _ | refine blk_drew ?_ | refine blk_alloc ?_ _)); exact BK122.out⟩, ⟨by repeat (first | (with_reducible first | exact HB.out | apply below_alloc | apply pw_below_drewN | apply below_drew1 | refine below_set ?_ GE116.out | refine below_set ?_ GE117.out | refine below_set ?_ GE122.out) | exact HB.out)⟩⟩
                    · replace c29 := Bool.eq_false_iff.mpr c29
                      subst c29
                      have H1 : (paternosterlaw09_CellRuns.j1 k1 a0 l1 x7_1 (!(t119 == x117000_1) || (!(t120 == x117001_1))) t119 t120) = some r := by rw [if_neg (show ¬ (false = true) by decide)] at H; exact H
                      clear H
                      have H := H1
                      clear H1
                      have H' := Aside0.mk H
                      clear H
                      have hnb41 := NB117_116.out
                      have hnc41 := NB116_117.out
                      have hnb42 := NB117_122.out
                      have hnc42 := NB122_117.out
                      have hcz43_0 : w21.cell? ⟨gb117, 0, none⟩ = some (.int .i64 x117000_1) := (blk_cell BK117.out 0).trans rfl
                      have hcz43_1 : w21.cell? ⟨gb117, 1, none⟩ = some (.int .i64 x117001_1) := (blk_cell BK117.out 1).trans rfl
                      have hfz43_0 := blk_frozen BK117.out 0
                      have hfz43_1 := blk_frozen BK117.out 1
                      have hnb44 := NB122_116.out
                      have hnc44 := NB116_122.out
                      have hcz45_0 : w21.cell? ⟨gb122, 0, none⟩ = some (.int .i64 0) := (blk_cell BK122.out 0).trans rfl
                      have hcz45_1 : w21.cell? ⟨gb122, 1, none⟩ = some (.int .i64 0) := (blk_cell BK122.out 1).trans rfl
                      have hfz45_0 := blk_frozen BK122.out 0
                      have hfz45_1 := blk_frozen BK122.out 1
                      go_wp2
                      go_meet
                      case rel => exact ⟨_, ((!(t119 == x117000_1) || (!(t120 == x117001_1)))), (by first | rfl | (simp; done) | (simp [*]; done)), H', ⟨by have := HK1.out; first | omega | exact Nat.le_refl _⟩, ⟨by (with_reducible repeat (first | refine blk_drewN ?_ _ | refine blk_drew ?_ | refine blk_alloc ?_ _)); refine blk_far ?_ NB116_122.out _; (with_reducible repeat (first | refine blk_drewN ?_ _ | refine blk_drew ?_ | refine blk_alloc ?_ _)); refine blk_far ?_ NB116_122.out _; (with_reducible repeat (first | refine blk_drewN ?_ _ | refine blk_drew ?_ | refine blk_alloc ?_ _)); exact BK116.out⟩, ⟨by (with_reducible repeat (first | refine blk_drewN ?_ _ | refine blk_drew ?_ | refine blk_alloc ?_ _)); refine blk_far ?_ NB117_122.out _; (with_reducible repeat (first | refine blk_drewN ?_ _ | refine blk_drew ?_ | refine blk_alloc ?_ _)); refine blk_far ?_ NB117_122.out _; (with_reducible repeat (first | refine blk_drewN ?_ _ | refine blk_drew ?_ | refine blk_alloc ?_ _)); exact BK117.out⟩, ⟨by (with_reducible repeat (first | refine blk_drewN ?_ _ | refine blk_drew ?_ | refine blk_alloc ?_ _)); refine blk_put (cs := #[.int .i64 t119, .int .i64 0]) ?_ 1 _ rfl; (with_reducible repeat (first | refine blk_drewN ?_ _ | refine blk_drew ?_ | refine blk_alloc ?_ _)); refine blk_put (cs := #[.int .i64 0, .int .i64 0]) ?_ 0 _ rfl; (with_reducible repeat (first | refine blk_drewN ?_ _ | refine blk_drew ?_ | refine blk_alloc ?_ _)); exact BK122.out⟩, ⟨by repeat (first | (with_reducible first | exact HB.out | apply below_alloc | apply pw_below_drewN | apply below_drew1 | refine below_set ?_ GE116.out | refine below_set ?_ GE117.out | refine below_set ?_ GE122.out) | exact HB.out)⟩⟩
                case rest =>
                  clear HC14
                  try clear c1
                  try clear p1
                  try clear q1
                  try clear hx1
                  try clear c2
                  try clear p2
                  try clear c3
                  try clear c4
                  try clear c5
                  try clear c5b0
                  try clear c5b1
                  try clear p6
                  try clear c10
                  try clear c10b0
                  try clear c11
                  try clear c11b0
                  try clear p11
                  try clear q11
                  try clear hx11
                  try clear c12
                  try clear c12b0
                  try clear c16
                  try clear c17
                  try clear c22
                  try clear c23
                  try clear c25
                  try clear c25b0
                  try clear c25b1
                  try clear c25b2
                  try clear c26
                  try clear c27
                  try clear c29
                  try clear c30
                  try clear c30b0
                  try clear c30b1
                  try clear c31
                  try clear c32
                  try clear c34
                  try clear c36
                  try clear c37
                  try clear c39
                  try clear c41
                  try clear c42
                  try clear c44
                  try clear hcz15_0
                  try clear hcz15_1
                  try clear hcz18_0
                  try clear hcz18_1
                  try clear hcz19_0
                  try clear hcz19_1
                  try clear hcz24_0
                  try clear hcz24_1
                  try clear hcz28_0
                  try clear hcz28_1
                  try clear hcz33_0
                  try clear hcz33_1
                  try clear hcz35_0
                  try clear hcz35_1
                  try clear hcz38_0
                  try clear hcz38_1
                  try clear hcz40_0
                  try clear hcz40_1
                  try clear hcz43_0
                  try clear hcz43_1
                  try clear hcz45_0
                  try clear hcz45_1
                  try clear hcz9_0
                  try clear hcz9_1
                  try clear hfz15_0
                  try clear hfz15_1
                  try clear hfz18_0
                  try clear hfz18_1
                  try clear hfz19_0
                  try clear hfz19_1
                  try clear hfz24_0
                  try clear hfz24_1
                  try clear hfz28_0
                  try clear hfz28_1
                  try clear hfz33_0
                  try clear hfz33_1
                  try clear hfz35_0
                  try clear hfz35_1
                  try clear hfz38_0
                  try clear hfz38_1
                  try clear hfz40_0
                  try clear hfz40_1
                  try clear hfz43_0
                  try clear hfz43_1
                  try clear hfz45_0
                  try clear hfz45_1
                  try clear hfz9_0
                  try clear hfz9_1
                  try clear hx118_0
                  try clear p118
                  try clear p2
                  try clear p6
                  try clear q118
                  obtain ⟨kq, x69_13, rfl, HA, HJ13, BK116, BK117, BK122, HB⟩ := hcut
                  cases kq with
                  | zero => exact absurd HA.out (by simp [paternosterlaw09_CellRuns.j1])
                  | succ kj13 =>
                    have H := HA.out
                    clear HA
                    simp only [paternosterlaw09_CellRuns.j1] at H
                    by_cases c46 : x69_13 = true
                    · subst c46
                      have H1 : (some false) = some r := by rw [if_pos rfl] at H; exact H
                      clear H
                      have H := H1
                      clear H1
                      obtain rfl := Option.some.inj H
                      go_wp2
                      go_ret
                      exact ⟨by first | rfl | (simp [errW_none, errW_some] <;> rfl) | (simp [*, errW_none, errW_some] <;> rfl), by repeat (first | (with_reducible first | exact HB.out | apply below_alloc | apply pw_below_drewN | apply below_drew1 | refine below_set ?_ GE116.out | refine below_set ?_ GE117.out | refine below_set ?_ GE122.out) | exact HB.out)⟩
                    · replace c46 := Bool.eq_false_iff.mpr c46
                      subst c46
                      have H1 : (if t119 < 0 then (some false) else (if t119 > t120 then (some false) else (if t120 = (wrap64 (a0)) then (paternosterlaw09_CellRuns.l0 kj13 a0 l1 (wrap64 (x7_1 + 1)) t119 t120) else (some false)))) = some r := by rw [if_neg (show ¬ (false = true) by decide)] at H; exact H
                      clear H
                      have H := H1
                      clear H1
                      by_cases c47 : t119 < 0
                      · rw [if_pos c47] at H
                        have c47b0 : decide (t119 < 0) = true := decide_eq_true c47
                        clear c47
                        obtain rfl := Option.some.inj H
                        have hnb48 := NB122_116.out
                        have hnc48 := NB116_122.out
                        have hnb49 := NB122_117.out
                        have hnc49 := NB117_122.out
                        have hcz50_0 : wc.cell? ⟨gb122, 0, none⟩ = some (.int .i64 t119) := (blk_cell BK122.out 0).trans rfl
                        have hcz50_1 : wc.cell? ⟨gb122, 1, none⟩ = some (.int .i64 t120) := (blk_cell BK122.out 1).trans rfl
                        have hfz50_0 := blk_frozen BK122.out 0
                        have hfz50_1 := blk_frozen BK122.out 1
                        have hnb51 := NB116_117.out
                        have hnc51 := NB117_116.out
                        have hcz52_0 : wc.cell? ⟨gb116, 0, none⟩ = some (.int .i64 x117000_1) := (blk_cell BK116.out 0).trans rfl
                        have hcz52_1 : wc.cell? ⟨gb116, 1, none⟩ = some (.int .i64 x117001_1) := (blk_cell BK116.out 1).trans rfl
                        have hfz52_0 := blk_frozen BK116.out 0
                        have hfz52_1 := blk_frozen BK116.out 1
                        go_wp2
                        go_ret
                        exact ⟨by first | rfl | (simp [errW_none, errW_some] <;> rfl) | (simp [*, errW_none, errW_some] <;> rfl), by repeat (first | (with_reducible first | exact HB.out | apply below_alloc | apply pw_below_drewN | apply below_drew1 | refine below_set ?_ GE116.out | refine below_set ?_ GE117.out | refine below_set ?_ GE122.out) | exact HB.out)⟩
                      · rw [if_neg c47] at H
                        have c47b0 : decide (t119 < 0) = false := decide_eq_false c47
                        clear c47
                        by_cases c53 : t119 > t120
                        · rw [if_pos c53] at H
                          have c53b0 : decide (t120 < t119) = true := decide_eq_true c53
                          clear c53
                          obtain rfl := Option.some.inj H
                          have hnb54 := NB122_116.out
                          have hnc54 := NB116_122.out
                          have hnb55 := NB122_117.out
                          have hnc55 := NB117_122.out
                          have hcz56_0 : wc.cell? ⟨gb122, 0, none⟩ = some (.int .i64 t119) := (blk_cell BK122.out 0).trans rfl
                          have hcz56_1 : wc.cell? ⟨gb122, 1, none⟩ = some (.int .i64 t120) := (blk_cell BK122.out 1).trans rfl
                          have hfz56_0 := blk_frozen BK122.out 0
                          have hfz56_1 := blk_frozen BK122.out 1
                          have hnb57 := NB116_117.out
                          have hnc57 := NB117_116.out
                          have hcz58_0 : wc.cell? ⟨gb116, 0, none⟩ = some (.int .i64 x117000_1) := (blk_cell BK116.out 0).trans rfl
                          have hcz58_1 : wc.cell? ⟨gb116, 1, none⟩ = some (.int .i64 x117001_1) := (blk_cell BK116.out 1).trans rfl
                          have hfz58_0 := blk_frozen BK116.out 0
                          have hfz58_1 := blk_frozen BK116.out 1
                          go_wp2
                          go_ret
                          exact ⟨by first | rfl | (simp [errW_none, errW_some] <;> rfl) | (simp [*, errW_none, errW_some] <;> rfl), by repeat (first | (with_reducible first | exact HB.out | apply below_alloc | apply pw_below_drewN | apply below_drew1 | refine below_set ?_ GE116.out | refine below_set ?_ GE117.out | refine below_set ?_ GE122.out) | exact HB.out)⟩
                        · rw [if_neg c53] at H
                          have c53b0 : decide (t120 < t119) = false := decide_eq_false c53
                          clear c53
                          by_cases c59 : t120 = (wrap64 (a0))
                          · rw [if_pos c59] at H
                            have c59b0 : (t120 == (wrap64 (a0))) = true := beq_iff_eq.mpr c59
                            have c59b1 : (t120 != (wrap64 (a0))) = false := bne_eq_false_iff_eq.mpr c59
                            clear c59
                            have H' := Aside0.mk H
                            clear H
                            have hnb60 := NB122_116.out
                            have hnc60 := NB116_122.out
                            have hnb61 := NB122_117.out
                            have hnc61 := NB117_122.out
                            have hcz62_0 : wc.cell? ⟨gb122, 0, none⟩ = some (.int .i64 t119) := (blk_cell BK122.out 0).trans rfl
                            have hcz62_1 : wc.cell? ⟨gb122, 1, none⟩ = some (.int .i64 t120) := (blk_cell BK122.out 1).trans rfl
                            have hfz62_0 := blk_frozen BK122.out 0
                            have hfz62_1 := blk_frozen BK122.out 1
                            have hnb63 := NB116_117.out
                            have hnc63 := NB117_116.out
                            have hcz64_0 : wc.cell? ⟨gb116, 0, none⟩ = some (.int .i64 x117000_1) := (blk_cell BK116.out 0).trans rfl
                            have hcz64_1 : wc.cell? ⟨gb116, 1, none⟩ = some (.int .i64 x117001_1) := (blk_cell BK116.out 1).trans rfl
                            have hfz64_0 := blk_frozen BK116.out 0
                            have hfz64_1 := blk_frozen BK116.out 1
                            go_wp2
                            go_roundg kj13
                            case measure => have := HK1.out; have := HJ13.out; omega
                            case rel => exact ⟨(wrap64 (x7_1 + 1)), (t119), (t120), (by first | rfl | (simp; done) | (simp [*]; done)), H', ⟨by have := HK1.out; have := HJ13.out; omega⟩, ⟨by (with_reducible repeat (first | refine blk_drewN ?_ _ | refine blk_drew ?_ | refine blk_alloc ?_ _)); refine blk_put (cs := #[.int .i64 t119, .int .i64 x117001_1]) ?_ 1 _ rfl; (with_reducible repeat (first | refine blk_drewN ?_ _ | refine blk_drew ?_ | refine blk_alloc ?_ _)); refine blk_put (cs := #[.int .i64 x117000_1, .int .i64 x117001_1]) ?_ 0 _ rfl; (with_reducible repeat (first | refine blk_drewN ?_ _ | refine blk_drew ?_ | refine blk_alloc ?_ _)); exact BK116.out⟩, ⟨by repeat (first | (with_reducible first | exact HB.out | apply below_alloc | apply pw_below_drewN | apply below_drew1 | refine below_set ?_ GE116.out | refine below_set ?_ GE117.out | refine below_set ?_ GE122.out) | exact HB.out)⟩⟩
                          · rw [if_neg c59] at H
                            have c59b0 : (t120 == (wrap64 (a0))) = false := beq_eq_false_iff_ne.mpr c59
                            have c59b1 : (t120 != (wrap64 (a0))) = true := bne_iff_ne.mpr c59
                            obtain rfl := Option.some.inj H
                            have hnb65 := NB122_116.out
                            have hnc65 := NB116_122.out
                            have hnb66 := NB122_117.out
                            have hnc66 := NB117_122.out
                            have hcz67_0 : wc.cell? ⟨gb122, 0, none⟩ = some (.int .i64 t119) := (blk_cell BK122.out 0).trans rfl
                            have hcz67_1 : wc.cell? ⟨gb122, 1, none⟩ = some (.int .i64 t120) := (blk_cell BK122.out 1).trans rfl
                            have hfz67_0 := blk_frozen BK122.out 0
                            have hfz67_1 := blk_frozen BK122.out 1
                            have hnb68 := NB116_117.out
                            have hnc68 := NB117_116.out
                            have hcz69_0 : wc.cell? ⟨gb116, 0, none⟩ = some (.int .i64 x117000_1) := (blk_cell BK116.out 0).trans rfl
                            have hcz69_1 : wc.cell? ⟨gb116, 1, none⟩ = some (.int .i64 x117001_1) := (blk_cell BK116.out 1).trans rfl
                            have hfz69_0 := blk_frozen BK116.out 0
                            have hfz69_1 := blk_frozen BK116.out 1
                            go_wp2
                            go_ret
                            exact ⟨by first | rfl | (simp [errW_none, errW_some] <;> rfl) | (simp [*, errW_none, errW_some] <;> rfl), by repeat (first | (with_reducible first | exact HB.out | apply below_alloc | apply pw_below_drewN | apply below_drew1 | refine below_set ?_ GE116.out | refine below_set ?_ GE117.out | refine below_set ?_ GE122.out) | exact HB.out)⟩
              · rw [if_neg c12] at H
                have c12b0 : decide ((wrap64 (rd l1 x7_1)) < 0) = false := decide_eq_false c12
                clear c12
                replace H := Option.bind_eq_some_iff.mp H
                obtain ⟨⟨t123, t124⟩, A700, H⟩ := H
                replace H : (if t123 = (mn (wrap64 (x117000_1 + (wrap64 (rd l1 x7_1)))) t124) then (if t123 < 0 then (some false) else (if t123 > t124 then (some false) else (if t124 = (wrap64 (a0)) then (paternosterlaw09_CellRuns.l0 k1 a0 l1 (wrap64 (x7_1 + 1)) t123 t124) else (some false)))) else (some false)) = some r := H
                have A70 := Aside0.mk A700
                clear A700
                obtain ⟨ji71, hji71⟩ : ∃ j_ : Int, (mn (wrap64 (x117000_1 + (wrap64 (rd l1 x7_1)))) t124) = j_ := ⟨_, rfl⟩
                replace H : (if t123 = (ji71) then (if t123 < 0 then (some false) else (if t123 > t124 then (some false) else (if t124 = (wrap64 (a0)) then (paternosterlaw09_CellRuns.l0 k1 a0 l1 (wrap64 (x7_1 + 1)) t123 t124) else (some false)))) else (some false)) = some r := by first | (rw [hji71] at H; exact H) | (simp only [hji71] at H ⊢; exact H)
                (try rw [hji71] at A70)
                have hji71_ : (if t124 < (wrap64 (x117000_1 + (wrap64 (rd l1 x7_1)))) then t124 else (wrap64 (x117000_1 + (wrap64 (rd l1 x7_1))))) = ji71 := hji71
                by_cases c72 : t123 = (ji71)
                · rw [if_pos c72] at H
                  have c72b0 : (t123 == (ji71)) = true := beq_iff_eq.mpr c72
                  have c72b1 : (t123 != (ji71)) = false := bne_eq_false_iff_eq.mpr c72
                  clear c72
                  by_cases c73 : t123 < 0
                  · rw [if_pos c73] at H
                    have c73b0 : decide (t123 < 0) = true := decide_eq_true c73
                    clear c73
                    obtain rfl := Option.some.inj H
                    have hcz74_0 : wr.cell? ⟨gb116, 0, none⟩ = some (.int .i64 x117000_1) := (blk_cell BK116.out 0).trans rfl
                    have hcz74_1 : wr.cell? ⟨gb116, 1, none⟩ = some (.int .i64 x117001_1) := (blk_cell BK116.out 1).trans rfl
                    have hfz74_0 := blk_frozen BK116.out 0
                    have hfz74_1 := blk_frozen BK116.out 1
                    go_wp2_with (first | ((with_reducible refine gate_dst (N := 8) rfl ?_); refine box_event ?hg (N := 8) ?hd (cs := #[.int .i64 0, .int .i64 0]) (t := 25) ?hr ?_; (case hd => rfl); (case hg => rfl); (case hr => first | (go_simp; done) | (go_simp; rfl)); intro gb117 hg w75 hbox hb; have n0_ := Aside0.mk (blk_below (g := gb116) (o := .cells #[.int .i64 x117000_1, .int .i64 x117001_1] 25 (0, 0)) (by (with_reducible repeat (first | refine blk_drewN ?_ _ | refine blk_drew ?_ | refine blk_alloc ?_ _)); exact BK116.out) hb); have n1_ := Aside0.mk (below_step (by repeat (first | (with_reducible first | exact HB.out | apply below_alloc | apply pw_below_drewN | apply below_drew1 | refine below_set ?_ GE116.out) | exact HB.out)) hb); have n2_ := Aside0.mk (hbox); have n3_ := Aside0.mk ((by rw [hg]; exact (below_size (by repeat (first | (with_reducible first | exact HB.out | apply below_alloc | apply pw_below_drewN | apply below_drew1 | refine below_set ?_ GE116.out) | exact HB.out))) : w.heap.size ≤ gb117)); have n4_ := Aside0.mk ((by rw [hg]; exact (below_size (by repeat (first | (with_reducible first | exact HB.out | apply below_alloc | apply pw_below_drewN | apply below_drew1 | refine below_set ?_ GE116.out) | exact HB.out))) : w.heap.size ≤ gb117)); have n5_ := Aside0.mk ((by rw [hg]; exact Nat.ne_of_lt (blk_lt (g := gb116) (o := .cells #[.int .i64 x117000_1, .int .i64 x117001_1] 25 (0, 0)) (by (with_reducible repeat (first | refine blk_drewN ?_ _ | refine blk_drew ?_ | refine blk_alloc ?_ _)); exact BK116.out)) : gb116 ≠ gb117)); have n6_ := Aside0.mk ((by rw [hg]; exact Nat.ne_of_gt (blk_lt (g := gb116) (o := .cells #[.int .i64 x117000_1, .int .i64 x117001_1] 25 (0, 0)) (by (with_reducible repeat (first | refine blk_drewN ?_ _ | refine blk_drew ?_ | refine blk_alloc ?_ _)); exact BK116.out)) : gb117 ≠ gb116)); clear BK116; clear HB; have BK116 := n0_; have HB := n1_; have BK117 := n2_; have GW117 := n3_; have GE117 := n4_; have NB116_117 := n5_; have NB117_116 := n6_; clear n0_ n1_ n2_ n3_ n4_ n5_ n6_; clear hb hbox hg; have hnb76 := NB117_116.out; have hnc76 := NB116_117.out; have hcz77_0 : w75.cell? ⟨gb117, 0, none⟩ = some (.int .i64 0) := (blk_cell BK117.out 0).trans rfl; have hcz77_1 : w75.cell? ⟨gb117, 1, none⟩ = some (.int .i64 0) := (blk_cell BK117.out 1).trans rfl; have hfz77_0 := blk_frozen BK117.out 0; have hfz77_1 := blk_frozen BK117.out 1; have p118 : 0 ≤ (x7_1 : Int) := of_decide_eq_true (by first | (with_reducible assumption) | assumption); have q118 : x7_1 < (l1.length : Int) := of_decide_eq_true (by first | (with_reducible assumption) | assumption); obtain ⟨ad118, e118, hx118_0⟩ := Kd.at_int HR1.out x7_1 p118 q118; cases e118; have hn118_0 : ad118.block ≠ gb117 := Nat.ne_of_lt (Nat.lt_of_lt_of_le (by have := World.block_lt_of_cell? _ _ hx118_0; first | rwa [add_block] at this | exact this) GW117.out); have hn118_1 : ad118.block ≠ gb117 := Nat.ne_of_lt (Nat.lt_of_lt_of_le (by have := World.block_lt_of_cell? _ _ hx118_0; first | rwa [add_block] at this | exact this) GW117.out); replace hx118_0 := (HB.out.cell (World.block_lt_of_cell? w _ hx118_0)).trans hx118_0; replace hx118_0 := (cell_far (p := ⟨gb117, 0, none⟩) (by first | (rw [add_block]; exact hn118_0) | (show (Addr.add _ _).block ≠ _; rw [add_block]; exact hn118_0) | exact hn118_0) (.int .i64 x117000_1)).trans hx118_0; replace hx118_0 := (cell_far (p := ⟨gb117, 1, none⟩) (by first | (rw [add_block]; exact hn118_1) | (show (Addr.add _ _).block ≠ _; rw [add_block]; exact hn118_1) | exact hn118_1) (.int .i64 x117001_1)).trans hx118_0; clear hn118_0; clear hn118_1; replace p118 := eq_true p118; replace q118 := eq_true q118; have hcz78_0 : w75.cell? ⟨gb116, 0, none⟩ = some (.int .i64 x117000_1) := (blk_cell BK116.out 0).trans rfl; have hcz78_1 : w75.cell? ⟨gb116, 1, none⟩ = some (.int .i64 x117001_1) := (blk_cell BK116.out 1).trans rfl; have hfz78_0 := blk_frozen BK116.out 0; have hfz78_1 := blk_frozen BK116.out 1) | ((with_reducible refine gate_callee (f := 19) rfl ?_); refine goesL_ (some 73) rfl rfl Try.func19 (by kernel_rfl) rfl #[.agg #[.int .i64 x117000_1, .int .i64 x117001_1], .int .i64 (wrap64 (rd l1 x7_1))] rfl (by (try simp only [List.map_toArray, List.map_cons, List.map_nil]); first | done | rfl | (simp only [List.length_drop, List.length_take]; rfl)) ?_; (with_reducible refine (cell_Cell_Fill.calls x117000_1 x117001_1 (wrap64 (rd l1 x7_1)) t123 t124 _ A70.out).mono ?_); rintro e w79 ⟨rfl, hb⟩; refine ⟨_, rfl, ?_⟩; have n0_ := Aside0.mk (blk_below (g := gb116) (o := .cells #[.int .i64 x117000_1, .int .i64 x117001_1] 25 (0, 0)) (by (with_reducible repeat (first | refine blk_drewN ?_ _ | refine blk_drew ?_ | refine blk_alloc ?_ _)); refine blk_far ?_ NB116_117.out _; (with_reducible repeat (first | refine blk_drewN ?_ _ | refine blk_drew ?_ | refine blk_alloc ?_ _)); refine blk_far ?_ NB116_117.out _; (with_reducible repeat (first | refine blk_drewN ?_ _ | refine blk_drew ?_ | refine blk_alloc ?_ _)); exact BK116.out) hb); have n1_ := Aside0.mk (blk_below (g := gb117) (o := .cells #[.int .i64 x117000_1, .int .i64 x117001_1] 25 (0, 0)) (by (with_reducible repeat (first | refine blk_drewN ?_ _ | refine blk_drew ?_ | refine blk_alloc ?_ _)); refine blk_put (cs := #[.int .i64 x117000_1, .int .i64 0]) ?_ 1 _ rfl; (with_reducible repeat (first | refine blk_drewN ?_ _ | refine blk_drew ?_ | refine blk_alloc ?_ _)); refine blk_put (cs := #[.int .i64 0, .int .i64 0]) ?_ 0 _ rfl; (with_reducible repeat (first | refine blk_drewN ?_ _ | refine blk_drew ?_ | refine blk_alloc ?_ _)); exact BK117.out) hb); have n2_ := Aside0.mk (below_step (by repeat (first | (with_reducible first | exact HB.out | apply below_alloc | apply pw_below_drewN | apply below_drew1 | refine below_set ?_ GE116.out | refine below_set ?_ GE117.out) | exact HB.out)) hb); clear BK116; clear BK117; clear HB; have BK116 := n0_; have BK117 := n1_; have HB := n2_; clear n0_ n1_ n2_; (try clear hb); (try clear hb2); (try clear hk); (try clear hi); have hcz80_0 : w79.cell? ⟨gb116, 0, none⟩ = some (.int .i64 x117000_1) := (blk_cell BK116.out 0).trans rfl; have hcz80_1 : w79.cell? ⟨gb116, 1, none⟩ = some (.int .i64 x117001_1) := (blk_cell BK116.out 1).trans rfl; have hfz80_0 := blk_frozen BK116.out 0; have hfz80_1 := blk_frozen BK116.out 1; have hcz81_0 : w79.cell? ⟨gb117, 0, none⟩ = some (.int .i64 x117000_1) := (blk_cell BK117.out 0).trans rfl; have hcz81_1 : w79.cell? ⟨gb117, 1, none⟩ = some (.int .i64 x117001_1) := (blk_cell BK117.out 1).trans rfl; have hfz81_0 := blk_frozen BK117.out 0; have hfz81_1 := blk_frozen BK117.out 1))
                    go_ret
                    exact ⟨by first | rfl | (simp [errW_none, errW_some] <;> rfl) | (simp only [← hji71]; first | rfl | (simp [errW_none, errW_some] <;> rfl)) | (simp [*, errW_none, errW_some] <;> rfl), by repeat (first | (with_reducible first | exact HB.out | apply below_alloc | apply pw_below_drewN | apply below_drew1 | refine below_set ?_ GE116.out | refine below_set ?_ GE117.out) | exact HB.out)⟩
                  · rw [if_neg c73] at H
                    have c73b0 : decide (t123 < 0) = false := decide_eq_false c73
                    clear c73
                    by_cases c82 : t123 > t124
                    · rw [if_pos c82] at H
                      have c82b0 : decide (t124 < t123) = true := decide_eq_true c82
                      clear c82
                      obtain rfl := Option.some.inj H
                      have hcz83_0 : wr.cell? ⟨gb116, 0, none⟩ = some (.int .i64 x117000_1) := (blk_cell BK116.out 0).trans rfl
                      have hcz83_1 : wr.cell? ⟨gb116, 1, none⟩ = some (.int .i64 x117001_1) := (blk_cell BK116.out 1).trans rfl
                      have hfz83_0 := blk_frozen BK116.out 0
                      have hfz83_1 := blk_frozen BK116.out 1
                      go_wp2_with (first | ((with_reducible refine gate_dst (N := 8) rfl ?_); refine box_event ?hg (N := 8) ?hd (cs := #[.int .i64 0, .int .i64 0]) (t := 25) ?hr ?_; (case hd => rfl); (case hg => rfl); (case hr => first | (go_simp; done) | (go_simp; rfl)); intro gb117 hg w84 hbox hb; have n0_ := Aside0.mk (blk_below (g := gb116) (o := .cells #[.int .i64 x117000_1, .int .i64 x117001_1] 25 (0, 0)) (by (with_reducible repeat (first | refine blk_drewN ?_ _ | refine blk_drew ?_ | refine blk_alloc ?_ _)); exact BK116.out) hb); have n1_ := Aside0.mk (below_step (by repeat (first | (with_reducible first | exact HB.out | apply below_alloc | apply pw_below_drewN | apply below_drew1 | refine below_set ?_ GE116.out) | exact HB.out)) hb); have n2_ := Aside0.mk (hbox); have n3_ := Aside0.mk ((by rw [hg]; exact (below_size (by repeat (first | (with_reducible first | exact HB.out | apply below_alloc | apply pw_below_drewN | apply below_drew1 | refine below_set ?_ GE116.out) | exact HB.out))) : w.heap.size ≤ gb117)); have n4_ := Aside0.mk ((by rw [hg]; exact (below_size (by repeat (first | (with_reducible first | exact HB.out | apply below_alloc | apply pw_below_drewN | apply below_drew1 | refine below_set ?_ GE116.out) | exact HB.out))) : w.heap.size ≤ gb117)); have n5_ := Aside0.mk ((by rw [hg]; exact Nat.ne_of_lt (blk_lt (g := gb116) (o := .cells #[.int .i64 x117000_1, .int .i64 x117001_1] 25 (0, 0)) (by (with_reducible repeat (first | refine blk_drewN ?_ _ | refine blk_drew ?_ | refine blk_alloc ?_ _)); exact BK116.out)) : gb116 ≠ gb117)); have n6_ := Aside0.mk ((by rw [hg]; exact Nat.ne_of_gt (blk_lt (g := gb116) (o := .cells #[.int .i64 x117000_1, .int .i64 x117001_1] 25 (0, 0)) (by (with_reducible repeat (first | refine blk_drewN ?_ _ | refine blk_drew ?_ | refine blk_alloc ?_ _)); exact BK116.out)) : gb117 ≠ gb116)); clear BK116; clear HB; have BK116 := n0_; have HB := n1_; have BK117 := n2_; have GW117 := n3_; have GE117 := n4_; have NB116_117 := n5_; have NB117_116 := n6_; clear n0_ n1_ n2_ n3_ n4_ n5_ n6_; clear hb hbox hg; have hnb85 := NB117_116.out; have hnc85 := NB116_117.out; have hcz86_0 : w84.cell? ⟨gb117, 0, none⟩ = some (.int .i64 0) := (blk_cell BK117.out 0).trans rfl; have hcz86_1 : w84.cell? ⟨gb117, 1, none⟩ = some (.int .i64 0) := (blk_cell BK117.out 1).trans rfl; have hfz86_0 := blk_frozen BK117.out 0; have hfz86_1 := blk_frozen BK117.out 1; have p118 : 0 ≤ (x7_1 : Int) := of_decide_eq_true (by first | (with_reducible assumption) | assumption); have q118 : x7_1 < (l1.length : Int) := of_decide_eq_true (by first | (with_reducible assumption) | assumption); obtain ⟨ad118, e118, hx118_0⟩ := Kd.at_int HR1.out x7_1 p118 q118; cases e118; have hn118_0 : ad118.block ≠ gb117 := Nat.ne_of_lt (Nat.lt_of_lt_of_le (by have := World.block_lt_of_cell? _ _ hx118_0; first | rwa [add_block] at this | exact this) GW117.out); have hn118_1 : ad118.block ≠ gb117 := Nat.ne_of_lt (Nat.lt_of_lt_of_le (by have := World.block_lt_of_cell? _ _ hx118_0; first | rwa [add_block] at this | exact this) GW117.out); replace hx118_0 := (HB.out.cell (World.block_lt_of_cell? w _ hx118_0)).trans hx118_0; replace hx118_0 := (cell_far (p := ⟨gb117, 0, none⟩) (by first | (rw [add_block]; exact hn118_0) | (show (Addr.add _ _).block ≠ _; rw [add_block]; exact hn118_0) | exact hn118_0) (.int .i64 x117000_1)).trans hx118_0; replace hx118_0 := (cell_far (p := ⟨gb117, 1, none⟩) (by first | (rw [add_block]; exact hn118_1) | (show (Addr.add _ _).block ≠ _; rw [add_block]; exact hn118_1) | exact hn118_1) (.int .i64 x117001_1)).trans hx118_0; clear hn118_0; clear hn118_1; replace p118 := eq_true p118; replace q118 := eq_true q118; have hcz87_0 : w84.cell? ⟨gb116, 0, none⟩ = some (.int .i64 x117000_1) := (blk_cell BK116.out 0).trans rfl; have hcz87_1 : w84.cell? ⟨gb116, 1, none⟩ = some (.int .i64 x117001_1) := (blk_cell BK116.out 1).trans rfl; have hfz87_0 := blk_frozen BK116.out 0; have hfz87_1 := blk_frozen BK116.out 1) | ((with_reducible refine gate_callee (f := 19) rfl ?_); refine goesL_ (some 73) rfl rfl Try.func19 (by kernel_rfl) rfl #[.agg #[.int .i64 x117000_1, .int .i64 x117001_1], .int .i64 (wrap64 (rd l1 x7_1))] rfl (by (try simp only [List.map_toArray, List.map_cons, List.map_nil]); first | done | rfl | (simp only [List.length_drop, List.length_take]; rfl)) ?_; (with_reducible refine (cell_Cell_Fill.calls x117000_1 x117001_1 (wrap64 (rd l1 x7_1)) t123 t124 _ A70.out).mono ?_); rintro e w88 ⟨rfl, hb⟩; refine ⟨_, rfl, ?_⟩; have n0_ := Aside0.mk (blk_below (g := gb116) (o := .cells #[.int .i64 x117000_1, .int .i64 x117001_1] 25 (0, 0)) (by (with_reducible repeat (first | refine blk_drewN ?_ _ | refine blk_drew ?_ | refine blk_alloc ?_ _)); refine blk_far ?_ NB116_117.out _; (with_reducible repeat (first | refine blk_drewN ?_ _ | refine blk_drew ?_ | refine blk_alloc ?_ _)); refine blk_far ?_ NB116_117.out _; (with_reducible repeat (first | refine blk_drewN ?_ _ | refine blk_drew ?_ | refine blk_alloc ?_ _)); exact BK116.out) hb); have n1_ := Aside0.mk (blk_below (g := gb117) (o := .cells #[.int .i64 x117000_1, .int .i64 x117001_1] 25 (0, 0)) (by (with_reducible repeat (first | refine blk_drewN ?_ _ | refine blk_drew ?_ | refine blk_alloc ?_ _)); refine blk_put (cs := #[.int .i64 x117000_1, .int .i64 0]) ?_ 1 _ rfl; (with_reducible repeat (first | refine blk_drewN ?_ _ | refine blk_drew ?_ | refine blk_alloc ?_ _)); refine blk_put (cs := #[.int .i64 0, .int .i64 0]) ?_ 0 _ rfl; (with_reducible repeat (first | refine blk_drewN ?_ _ | refine blk_drew ?_ | refine blk_alloc ?_ _)); exact BK117.out) hb); have n2_ := Aside0.mk (below_step (by repeat (first | (with_reducible first | exact HB.out | apply below_alloc | apply pw_below_drewN | apply below_drew1 | refine below_set ?_ GE116.out | refine below_set ?_ GE117.out) | exact HB.out)) hb); clear BK116; clear BK117; clear HB; have BK116 := n0_; have BK117 := n1_; have HB := n2_; clear n0_ n1_ n2_; (try clear hb); (try clear hb2); (try clear hk); (try clear hi); have hcz89_0 : w88.cell? ⟨gb116, 0, none⟩ = some (.int .i64 x117000_1) := (blk_cell BK116.out 0).trans rfl; have hcz89_1 : w88.cell? ⟨gb116, 1, none⟩ = some (.int .i64 x117001_1) := (blk_cell BK116.out 1).trans rfl; have hfz89_0 := blk_frozen BK116.out 0; have hfz89_1 := blk_frozen BK116.out 1; have hcz90_0 : w88.cell? ⟨gb117, 0, none⟩ = some (.int .i64 x117000_1) := (blk_cell BK117.out 0).trans rfl; have hcz90_1 : w88.cell? ⟨gb117, 1, none⟩ = some (.int .i64 x117001_1) := (blk_cell BK117.out 1).trans rfl; have hfz90_0 := blk_frozen BK117.out 0; have hfz90_1 := blk_frozen BK117.out 1))
                      go_ret
                      exact ⟨by first | rfl | (simp [errW_none, errW_some] <;> rfl) | (simp only [← hji71]; first | rfl | (simp [errW_none, errW_some] <;> rfl)) | (simp [*, errW_none, errW_some] <;> rfl), by repeat (first | (with_reducible first | exact HB.out | apply below_alloc | apply pw_below_drewN | apply below_drew1 | refine below_set ?_ GE116.out | refine below_set ?_ GE117.out) | exact HB.out)⟩
                    · rw [if_neg c82] at H
                      have c82b0 : decide (t124 < t123) = false := decide_eq_false c82
                      clear c82
                      by_cases c91 : t124 = (wrap64 (a0))
                      · rw [if_pos c91] at H
                        have c91b0 : (t124 == (wrap64 (a0))) = true := beq_iff_eq.mpr c91
                        have c91b1 : (t124 != (wrap64 (a0))) = false := bne_eq_false_iff_eq.mpr c91
                        clear c91
                        have H' := Aside0.mk H
                        clear H
                        have hcz92_0 : wr.cell? ⟨gb116, 0, none⟩ = some (.int .i64 x117000_1) := (blk_cell BK116.out 0).trans rfl
                        have hcz92_1 : wr.cell? ⟨gb116, 1, none⟩ = some (.int .i64 x117001_1) := (blk_cell BK116.out 1).trans rfl
                        have hfz92_0 := blk_frozen BK116.out 0
                        have hfz92_1 := blk_frozen BK116.out 1
                        go_wp2_with (first | ((with_reducible refine gate_dst (N := 8) rfl ?_); refine box_event ?hg (N := 8) ?hd (cs := #[.int .i64 0, .int .i64 0]) (t := 25) ?hr ?_; (case hd => rfl); (case hg => rfl); (case hr => first | (go_simp; done) | (go_simp; rfl)); intro gb117 hg w93 hbox hb; have n0_ := Aside0.mk (blk_below (g := gb116) (o := .cells #[.int .i64 x117000_1, .int .i64 x117001_1] 25 (0, 0)) (by (with_reducible repeat (first | refine blk_drewN ?_ _ | refine blk_drew ?_ | refine blk_alloc ?_ _)); exact BK116.out) hb); have n1_ := Aside0.mk (below_step (by repeat (first | (with_reducible first | exact HB.out | apply below_alloc | apply pw_below_drewN | apply below_drew1 | refine below_set ?_ GE116.out) | exact HB.out)) hb); have n2_ := Aside0.mk (hbox); have n3_ := Aside0.mk ((by rw [hg]; exact (below_size (by repeat (first | (with_reducible first | exact HB.out | apply below_alloc | apply pw_below_drewN | apply below_drew1 | refine below_set ?_ GE116.out) | exact HB.out))) : w.heap.size ≤ gb117)); have n4_ := Aside0.mk ((by rw [hg]; exact (below_size (by repeat (first | (with_reducible first | exact HB.out | apply below_alloc | apply pw_below_drewN | apply below_drew1 | refine below_set ?_ GE116.out) | exact HB.out))) : w.heap.size ≤ gb117)); have n5_ := Aside0.mk ((by rw [hg]; exact Nat.ne_of_lt (blk_lt (g := gb116) (o := .cells #[.int .i64 x117000_1, .int .i64 x117001_1] 25 (0, 0)) (by (with_reducible repeat (first | refine blk_drewN ?_ _ | refine blk_drew ?_ | refine blk_alloc ?_ _)); exact BK116.out)) : gb116 ≠ gb117)); have n6_ := Aside0.mk ((by rw [hg]; exact Nat.ne_of_gt (blk_lt (g := gb116) (o := .cells #[.int .i64 x117000_1, .int .i64 x117001_1] 25 (0, 0)) (by (with_reducible repeat (first | refine blk_drewN ?_ _ | refine blk_drew ?_ | refine blk_alloc ?_ _)); exact BK116.out)) : gb117 ≠ gb116)); clear BK116; clear HB; have BK116 := n0_; have HB := n1_; have BK117 := n2_; have GW117 := n3_; have GE117 := n4_; have NB116_117 := n5_; have NB117_116 := n6_; clear n0_ n1_ n2_ n3_ n4_ n5_ n6_; clear hb hbox hg; have hnb94 := NB117_116.out; have hnc94 := NB116_117.out; have hcz95_0 : w93.cell? ⟨gb117, 0, none⟩ = some (.int .i64 0) := (blk_cell BK117.out 0).trans rfl; have hcz95_1 : w93.cell? ⟨gb117, 1, none⟩ = some (.int .i64 0) := (blk_cell BK117.out 1).trans rfl; have hfz95_0 := blk_frozen BK117.out 0; have hfz95_1 := blk_frozen BK117.out 1; have p118 : 0 ≤ (x7_1 : Int) := of_decide_eq_true (by first | (with_reducible assumption) | assumption); have q118 : x7_1 < (l1.length : Int) := of_decide_eq_true (by first | (with_reducible assumption) | assumption); obtain ⟨ad118, e118, hx118_0⟩ := Kd.at_int HR1.out x7_1 p118 q118; cases e118; have hn118_0 : ad118.block ≠ gb117 := Nat.ne_of_lt (Nat.lt_of_lt_of_le (by have := World.block_lt_of_cell? _ _ hx118_0; first | rwa [add_block] at this | exact this) GW117.out); have hn118_1 : ad118.block ≠ gb117 := Nat.ne_of_lt (Nat.lt_of_lt_of_le (by have := World.block_lt_of_cell? _ _ hx118_0; first | rwa [add_block] at this | exact this) GW117.out); replace hx118_0 := (HB.out.cell (World.block_lt_of_cell? w _ hx118_0)).trans hx118_0; replace hx118_0 := (cell_far (p := ⟨gb117, 0, none⟩) (by first | (rw [add_block]; exact hn118_0) | (show (Addr.add _ _).block ≠ _; rw [add_block]; exact hn118_0) | exact hn118_0) (.int .i64 x117000_1)).trans hx118_0; replace hx118_0 := (cell_far (p := ⟨gb117, 1, none⟩) (by first | (rw [add_block]; exact hn118_1) | (show (Addr.add _ _).block ≠ _; rw [add_block]; exact hn118_1) | exact hn118_1) (.int .i64 x117001_1)).trans hx118_0; clear hn118_0; clear hn118_1; replace p118 := eq_true p118; replace q118 := eq_true q118; have hcz96_0 : w93.cell? ⟨gb116, 0, none⟩ = some (.int .i64 x117000_1) := (blk_cell BK116.out 0).trans rfl; have hcz96_1 : w93.cell? ⟨gb116, 1, none⟩ = some (.int .i64 x117001_1) := (blk_cell BK116.out 1).trans rfl; have hfz96_0 := blk_frozen BK116.out 0; have hfz96_1 := blk_frozen BK116.out 1) | ((with_reducible refine gate_callee (f := 19) rfl ?_); refine goesL_ (some 73) rfl rfl Try.func19 (by kernel_rfl) rfl #[.agg #[.int .i64 x117000_1, .int .i64 x117001_1], .int .i64 (wrap64 (rd l1 x7_1))] rfl (by (try simp only [List.map_toArray, List.map_cons, List.map_nil]); first | done | rfl | (simp only [List.length_drop, List.length_take]; rfl)) ?_; (with_reducible refine (cell_Cell_Fill.calls x117000_1 x117001_1 (wrap64 (rd l1 x7_1)) t123 t124 _ A70.out).mono ?_); rintro e w97 ⟨rfl, hb⟩; refine ⟨_, rfl, ?_⟩; have n0_ := Aside0.mk (blk_below (g := gb116) (o := .cells #[.int .i64 x117000_1, .int .i64 x117001_1] 25 (0, 0)) (by (with_reducible repeat (first | refine blk_drewN ?_ _ | refine blk_drew ?_ | refine blk_alloc ?_ _)); refine blk_far ?_ NB116_117.out _; (with_reducible repeat (first | refine blk_drewN ?_ _ | refine blk_drew ?_ | refine blk_alloc ?_ _)); refine blk_far ?_ NB116_117.out _; (with_reducible repeat (first | refine blk_drewN ?_ _ | refine blk_drew ?_ | refine blk_alloc ?_ _)); exact BK116.out) hb); have n1_ := Aside0.mk (blk_below (g := gb117) (o := .cells #[.int .i64 x117000_1, .int .i64 x117001_1] 25 (0, 0)) (by (with_reducible repeat (first | refine blk_drewN ?_ _ | refine blk_drew ?_ | refine blk_alloc ?_ _)); refine blk_put (cs := #[.int .i64 x117000_1, .int .i64 0]) ?_ 1 _ rfl; (with_reducible repeat (first | refine blk_drewN ?_ _ | refine blk_drew ?_ | refine blk_alloc ?_ _)); refine blk_put (cs := #[.int .i64 0, .int .i64 0]) ?_ 0 _ rfl; (with_reducible repeat (first | refine blk_drewN ?_ _ | refine blk_drew ?_ | refine blk_alloc ?_ _)); exact BK117.out) hb); have n2_ := Aside0.mk (below_step (by repeat (first | (with_reducible first | exact HB.out | apply below_alloc | apply pw_below_drewN | apply below_drew1 | refine below_set ?_ GE116.out | refine below_set ?_ GE117.out) | exact HB.out)) hb); clear BK116; clear BK117; clear HB; have BK116 := n0_; have BK117 := n1_; have HB := n2_; clear n0_ n1_ n2_; (try clear hb); (try clear hb2); (try clear hk); (try clear hi); have hcz98_0 : w97.cell? ⟨gb116, 0, none⟩ = some (.int .i64 x117000_1) := (blk_cell BK116.out 0).trans rfl; have hcz98_1 : w97.cell? ⟨gb116, 1, none⟩ = some (.int .i64 x117001_1) := (blk_cell BK116.out 1).trans rfl; have hfz98_0 := blk_frozen BK116.out 0; have hfz98_1 := blk_frozen BK116.out 1; have hcz99_0 : w97.cell? ⟨gb117, 0, none⟩ = some (.int .i64 x117000_1) := (blk_cell BK117.out 0).trans rfl; have hcz99_1 : w97.cell? ⟨gb117, 1, none⟩ = some (.int .i64 x117001_1) := (blk_cell BK117.out 1).trans rfl; have hfz99_0 := blk_frozen BK117.out 0; have hfz99_1 := blk_frozen BK117.out 1))
                        go_roundg k1
                        case measure => have := HK1.out; omega
                        case rel => exact ⟨(wrap64 (x7_1 + 1)), (t123), (t124), (by first | rfl | (simp; done) | (simp [*]; done)), H', ⟨by have := HK1.out; omega⟩, ⟨by (with_reducible repeat (first | refine blk_drewN ?_ _ | refine blk_drew ?_ | refine blk_alloc ?_ _)); refine blk_put (cs := #[.int .i64 t123, .int .i64 x117001_1]) ?_ 1 _ rfl; (with_reducible repeat (first | refine blk_drewN ?_ _ | refine blk_drew ?_ | refine blk_alloc ?_ _)); refine blk_put (cs := #[.int .i64 x117000_1, .int .i64 x117001_1]) ?_ 0 _ rfl; (with_reducible repeat (first | refine blk_drewN ?_ _ | refine blk_drew ?_ | refine blk_alloc ?_ _)); exact BK116.out⟩, ⟨by repeat (first | (with_reducible first | exact HB.out | apply below_alloc | apply pw_below_drewN | apply below_drew1 | refine below_set ?_ GE116.out | refine below_set ?_ GE117.out) | exact HB.out)⟩⟩
                      · rw [if_neg c91] at H
                        have c91b0 : (t124 == (wrap64 (a0))) = false := beq_eq_false_iff_ne.mpr c91
                        have c91b1 : (t124 != (wrap64 (a0))) = true := bne_iff_ne.mpr c91
                        obtain rfl := Option.some.inj H
                        have hcz100_0 : wr.cell? ⟨gb116, 0, none⟩ = some (.int .i64 x117000_1) := (blk_cell BK116.out 0).trans rfl
                        have hcz100_1 : wr.cell? ⟨gb116, 1, none⟩ = some (.int .i64 x117001_1) := (blk_cell BK116.out 1).trans rfl
                        have hfz100_0 := blk_frozen BK116.out 0
                        have hfz100_1 := blk_frozen BK116.out 1
                        go_wp2_with (first | ((with_reducible refine gate_dst (N := 8) rfl ?_); refine box_event ?hg (N := 8) ?hd (cs := #[.int .i64 0, .int .i64 0]) (t := 25) ?hr ?_; (case hd => rfl); (case hg => rfl); (case hr => first | (go_simp; done) | (go_simp; rfl)); intro gb117 hg w101 hbox hb; have n0_ := Aside0.mk (blk_below (g := gb116) (o := .cells #[.int .i64 x117000_1, .int .i64 x117001_1] 25 (0, 0)) (by (with_reducible repeat (first | refine blk_drewN ?_ _ | refine blk_drew ?_ | refine blk_alloc ?_ _)); exact BK116.out) hb); have n1_ := Aside0.mk (below_step (by repeat (first | (with_reducible first | exact HB.out | apply below_alloc | apply pw_below_drewN | apply below_drew1 | refine below_set ?_ GE116.out) | exact HB.out)) hb); have n2_ := Aside0.mk (hbox); have n3_ := Aside0.mk ((by rw [hg]; exact (below_size (by repeat (first | (with_reducible first | exact HB.out | apply below_alloc | apply pw_below_drewN | apply below_drew1 | refine below_set ?_ GE116.out) | exact HB.out))) : w.heap.size ≤ gb117)); have n4_ := Aside0.mk ((by rw [hg]; exact (below_size (by repeat (first | (with_reducible first | exact HB.out | apply below_alloc | apply pw_below_drewN | apply below_drew1 | refine below_set ?_ GE116.out) | exact HB.out))) : w.heap.size ≤ gb117)); have n5_ := Aside0.mk ((by rw [hg]; exact Nat.ne_of_lt (blk_lt (g := gb116) (o := .cells #[.int .i64 x117000_1, .int .i64 x117001_1] 25 (0, 0)) (by (with_reducible repeat (first | refine blk_drewN ?_ _ | refine blk_drew ?_ | refine blk_alloc ?_ _)); exact BK116.out)) : gb116 ≠ gb117)); have n6_ := Aside0.mk ((by rw [hg]; exact Nat.ne_of_gt (blk_lt (g := gb116) (o := .cells #[.int .i64 x117000_1, .int .i64 x117001_1] 25 (0, 0)) (by (with_reducible repeat (first | refine blk_drewN ?_ _ | refine blk_drew ?_ | refine blk_alloc ?_ _)); exact BK116.out)) : gb117 ≠ gb116)); clear BK116; clear HB; have BK116 := n0_; have HB := n1_; have BK117 := n2_; have GW117 := n3_; have GE117 := n4_; have NB116_117 := n5_; have NB117_116 := n6_; clear n0_ n1_ n2_ n3_ n4_ n5_ n6_; clear hb hbox hg; have hnb102 := NB117_116.out; have hnc102 := NB116_117.out; have hcz103_0 : w101.cell? ⟨gb117, 0, none⟩ = some (.int .i64 0) := (blk_cell BK117.out 0).trans rfl; have hcz103_1 : w101.cell? ⟨gb117, 1, none⟩ = some (.int .i64 0) := (blk_cell BK117.out 1).trans rfl; have hfz103_0 := blk_frozen BK117.out 0; have hfz103_1 := blk_frozen BK117.out 1; have p118 : 0 ≤ (x7_1 : Int) := of_decide_eq_true (by first | (with_reducible assumption) | assumption); have q118 : x7_1 < (l1.length : Int) := of_decide_eq_true (by first | (with_reducible assumption) | assumption); obtain ⟨ad118, e118, hx118_0⟩ := Kd.at_int HR1.out x7_1 p118 q118; cases e118; have hn118_0 : ad118.block ≠ gb117 := Nat.ne_of_lt (Nat.lt_of_lt_of_le (by have := World.block_lt_of_cell? _ _ hx118_0; first | rwa [add_block] at this | exact this) GW117.out); have hn118_1 : ad118.block ≠ gb117 := Nat.ne_of_lt (Nat.lt_of_lt_of_le (by have := World.block_lt_of_cell? _ _ hx118_0; first | rwa [add_block] at this | exact this) GW117.out); replace hx118_0 := (HB.out.cell (World.block_lt_of_cell? w _ hx118_0)).trans hx118_0; replace hx118_0 := (cell_far (p := ⟨gb117, 0, none⟩) (by first | (rw [add_block]; exact hn118_0) | (show (Addr.add _ _).block ≠ _; rw [add_block]; exact hn118_0) | exact hn118_0) (.int .i64 x117000_1)).trans hx118_0; replace hx118_0 := (cell_far (p := ⟨gb117, 1, none⟩) (by first | (rw [add_block]; exact hn118_1) | (show (Addr.add _ _).block ≠ _; rw [add_block]; exact hn118_1) | exact hn118_1) (.int .i64 x117001_1)).trans hx118_0; clear hn118_0; clear hn118_1; replace p118 := eq_true p118; replace q118 := eq_true q118; have hcz104_0 : w101.cell? ⟨gb116, 0, none⟩ = some (.int .i64 x117000_1) := (blk_cell BK116.out 0).trans rfl; have hcz104_1 : w101.cell? ⟨gb116, 1, none⟩ = some (.int .i64 x117001_1) := (blk_cell BK116.out 1).trans rfl; have hfz104_0 := blk_frozen BK116.out 0; have hfz104_1 := blk_frozen BK116.out 1) | ((with_reducible refine gate_callee (f := 19) rfl ?_); refine goesL_ (some 73) rfl rfl Try.func19 (by kernel_rfl) rfl #[.agg #[.int .i64 x117000_1, .int .i64 x117001_1], .int .i64 (wrap64 (rd l1 x7_1))] rfl (by (try simp only [List.map_toArray, List.map_cons, List.map_nil]); first | done | rfl | (simp only [List.length_drop, List.length_take]; rfl)) ?_; (with_reducible refine (cell_Cell_Fill.calls x117000_1 x117001_1 (wrap64 (rd l1 x7_1)) t123 t124 _ A70.out).mono ?_); rintro e w105 ⟨rfl, hb⟩; refine ⟨_, rfl, ?_⟩; have n0_ := Aside0.mk (blk_below (g := gb116) (o := .cells #[.int .i64 x117000_1, .int .i64 x117001_1] 25 (0, 0)) (by (with_reducible repeat (first | refine blk_drewN ?_ _ | refine blk_drew ?_ | refine blk_alloc ?_ _)); refine blk_far ?_ NB116_117.out _; (with_reducible repeat (first | refine blk_drewN ?_ _ | refine blk_drew ?_ | refine blk_alloc ?_ _)); refine blk_far ?_ NB116_117.out _; (with_reducible repeat (first | refine blk_drewN ?_ _ | refine blk_drew ?_ | refine blk_alloc ?_ _)); exact BK116.out) hb); have n1_ := Aside0.mk (blk_below (g := gb117) (o := .cells #[.int .i64 x117000_1, .int .i64 x117001_1] 25 (0, 0)) (by (with_reducible repeat (first | refine blk_drewN ?_ _ | refine blk_drew ?_ | refine blk_alloc ?_ _)); refine blk_put (cs := #[.int .i64 x117000_1, .int .i64 0]) ?_ 1 _ rfl; (with_reducible repeat (first | refine blk_drewN ?_ _ | refine blk_drew ?_ | refine blk_alloc ?_ _)); refine blk_put (cs := #[.int .i64 0, .int .i64 0]) ?_ 0 _ rfl; (with_reducible repeat (first | refine blk_drewN ?_ _ | refine blk_drew ?_ | refine blk_alloc ?_ _)); exact BK117.out) hb); have n2_ := Aside0.mk (below_step (by repeat (first | (with_reducible first | exact HB.out | apply below_alloc | apply pw_below_drewN | apply below_drew1 | refine below_set ?_ GE116.out | refine below_set ?_ GE117.out) | exact HB.out)) hb); clear BK116; clear BK117; clear HB; have BK116 := n0_; have BK117 := n1_; have HB := n2_; clear n0_ n1_ n2_; (try clear hb); (try clear hb2); (try clear hk); (try clear hi); have hcz106_0 : w105.cell? ⟨gb116, 0, none⟩ = some (.int .i64 x117000_1) := (blk_cell BK116.out 0).trans rfl; have hcz106_1 : w105.cell? ⟨gb116, 1, none⟩ = some (.int .i64 x117001_1) := (blk_cell BK116.out 1).trans rfl; have hfz106_0 := blk_frozen BK116.out 0; have hfz106_1 := blk_frozen BK116.out 1; have hcz107_0 : w105.cell? ⟨gb117, 0, none⟩ = some (.int .i64 x117000_1) := (blk_cell BK117.out 0).trans rfl; have hcz107_1 : w105.cell? ⟨gb117, 1, none⟩ = some (.int .i64 x117001_1) := (blk_cell BK117.out 1).trans rfl; have hfz107_0 := blk_frozen BK117.out 0; have hfz107_1 := blk_frozen BK117.out 1))
                        go_ret
                        exact ⟨by first | rfl | (simp [errW_none, errW_some] <;> rfl) | (simp only [← hji71]; first | rfl | (simp [errW_none, errW_some] <;> rfl)) | (simp [*, errW_none, errW_some] <;> rfl), by repeat (first | (with_reducible first | exact HB.out | apply below_alloc | apply pw_below_drewN | apply below_drew1 | refine below_set ?_ GE116.out | refine below_set ?_ GE117.out) | exact HB.out)⟩
                · rw [if_neg c72] at H
                  have c72b0 : (t123 == (ji71)) = false := beq_eq_false_iff_ne.mpr c72
                  have c72b1 : (t123 != (ji71)) = true := bne_iff_ne.mpr c72
                  obtain rfl := Option.some.inj H
                  have hcz108_0 : wr.cell? ⟨gb116, 0, none⟩ = some (.int .i64 x117000_1) := (blk_cell BK116.out 0).trans rfl
                  have hcz108_1 : wr.cell? ⟨gb116, 1, none⟩ = some (.int .i64 x117001_1) := (blk_cell BK116.out 1).trans rfl
                  have hfz108_0 := blk_frozen BK116.out 0
                  have hfz108_1 := blk_frozen BK116.out 1
                  go_wp2_with (first | ((with_reducible refine gate_dst (N := 8) rfl ?_); refine box_event ?hg (N := 8) ?hd (cs := #[.int .i64 0, .int .i64 0]) (t := 25) ?hr ?_; (case hd => rfl); (case hg => rfl); (case hr => first | (go_simp; done) | (go_simp; rfl)); intro gb117 hg w109 hbox hb; have n0_ := Aside0.mk (blk_below (g := gb116) (o := .cells #[.int .i64 x117000_1, .int .i64 x117001_1] 25 (0, 0)) (by (with_reducible repeat (first | refine blk_drewN ?_ _ | refine blk_drew ?_ | refine blk_alloc ?_ _)); exact BK116.out) hb); have n1_ := Aside0.mk (below_step (by repeat (first | (with_reducible first | exact HB.out | apply below_alloc | apply pw_below_drewN | apply below_drew1 | refine below_set ?_ GE116.out) | exact HB.out)) hb); have n2_ := Aside0.mk (hbox); have n3_ := Aside0.mk ((by rw [hg]; exact (below_size (by repeat (first | (with_reducible first | exact HB.out | apply below_alloc | apply pw_below_drewN | apply below_drew1 | refine below_set ?_ GE116.out) | exact HB.out))) : w.heap.size ≤ gb117)); have n4_ := Aside0.mk ((by rw [hg]; exact (below_size (by repeat (first | (with_reducible first | exact HB.out | apply below_alloc | apply pw_below_drewN | apply below_drew1 | refine below_set ?_ GE116.out) | exact HB.out))) : w.heap.size ≤ gb117)); have n5_ := Aside0.mk ((by rw [hg]; exact Nat.ne_of_lt (blk_lt (g := gb116) (o := .cells #[.int .i64 x117000_1, .int .i64 x117001_1] 25 (0, 0)) (by (with_reducible repeat (first | refine blk_drewN ?_ _ | refine blk_drew ?_ | refine blk_alloc ?_ _)); exact BK116.out)) : gb116 ≠ gb117)); have n6_ := Aside0.mk ((by rw [hg]; exact Nat.ne_of_gt (blk_lt (g := gb116) (o := .cells #[.int .i64 x117000_1, .int .i64 x117001_1] 25 (0, 0)) (by (with_reducible repeat (first | refine blk_drewN ?_ _ | refine blk_drew ?_ | refine blk_alloc ?_ _)); exact BK116.out)) : gb117 ≠ gb116)); clear BK116; clear HB; have BK116 := n0_; have HB := n1_; have BK117 := n2_; have GW117 := n3_; have GE117 := n4_; have NB116_117 := n5_; have NB117_116 := n6_; clear n0_ n1_ n2_ n3_ n4_ n5_ n6_; clear hb hbox hg; have hnb110 := NB117_116.out; have hnc110 := NB116_117.out; have hcz111_0 : w109.cell? ⟨gb117, 0, none⟩ = some (.int .i64 0) := (blk_cell BK117.out 0).trans rfl; have hcz111_1 : w109.cell? ⟨gb117, 1, none⟩ = some (.int .i64 0) := (blk_cell BK117.out 1).trans rfl; have hfz111_0 := blk_frozen BK117.out 0; have hfz111_1 := blk_frozen BK117.out 1; have p118 : 0 ≤ (x7_1 : Int) := of_decide_eq_true (by first | (with_reducible assumption) | assumption); have q118 : x7_1 < (l1.length : Int) := of_decide_eq_true (by first | (with_reducible assumption) | assumption); obtain ⟨ad118, e118, hx118_0⟩ := Kd.at_int HR1.out x7_1 p118 q118; cases e118; have hn118_0 : ad118.block ≠ gb117 := Nat.ne_of_lt (Nat.lt_of_lt_of_le (by have := World.block_lt_of_cell? _ _ hx118_0; first | rwa [add_block] at this | exact this) GW117.out); have hn118_1 : ad118.block ≠ gb117 := Nat.ne_of_lt (Nat.lt_of_lt_of_le (by have := World.block_lt_of_cell? _ _ hx118_0; first | rwa [add_block] at this | exact this) GW117.out); replace hx118_0 := (HB.out.cell (World.block_lt_of_cell? w _ hx118_0)).trans hx118_0; replace hx118_0 := (cell_far (p := ⟨gb117, 0, none⟩) (by first | (rw [add_block]; exact hn118_0) | (show (Addr.add _ _).block ≠ _; rw [add_block]; exact hn118_0) | exact hn118_0) (.int .i64 x117000_1)).trans hx118_0; replace hx118_0 := (cell_far (p := ⟨gb117, 1, none⟩) (by first | (rw [add_block]; exact hn118_1) | (show (Addr.add _ _).block ≠ _; rw [add_block]; exact hn118_1) | exact hn118_1) (.int .i64 x117001_1)).trans hx118_0; clear hn118_0; clear hn118_1; replace p118 := eq_true p118; replace q118 := eq_true q118; have hcz112_0 : w109.cell? ⟨gb116, 0, none⟩ = some (.int .i64 x117000_1) := (blk_cell BK116.out 0).trans rfl; have hcz112_1 : w109.cell? ⟨gb116, 1, none⟩ = some (.int .i64 x117001_1) := (blk_cell BK116.out 1).trans rfl; have hfz112_0 := blk_frozen BK116.out 0; have hfz112_1 := blk_frozen BK116.out 1) | ((with_reducible refine gate_callee (f := 19) rfl ?_); refine goesL_ (some 73) rfl rfl Try.func19 (by kernel_rfl) rfl #[.agg #[.int .i64 x117000_1, .int .i64 x117001_1], .int .i64 (wrap64 (rd l1 x7_1))] rfl (by (try simp only [List.map_toArray, List.map_cons, List.map_nil]); first | done | rfl | (simp only [List.length_drop, List.length_take]; rfl)) ?_; (with_reducible refine (cell_Cell_Fill.calls x117000_1 x117001_1 (wrap64 (rd l1 x7_1)) t123 t124 _ A70.out).mono ?_); rintro e w113 ⟨rfl, hb⟩; refine ⟨_, rfl, ?_⟩; have n0_ := Aside0.mk (blk_below (g := gb116) (o := .cells #[.int .i64 x117000_1, .int .i64 x117001_1] 25 (0, 0)) (by (with_reducible repeat (first | refine blk_drewN ?_ _ | refine blk_drew ?_ | refine blk_alloc ?_ _)); refine blk_far ?_ NB116_117.out _; (with_reducible repeat (first | refine blk_drewN ?_ _ | refine blk_drew ?_ | refine blk_alloc ?_ _)); refine blk_far ?_ NB116_117.out _; (with_reducible repeat (first | refine blk_drewN ?_ _ | refine blk_drew ?_ | refine blk_alloc ?_ _)); exact BK116.out) hb); have n1_ := Aside0.mk (blk_below (g := gb117) (o := .cells #[.int .i64 x117000_1, .int .i64 x117001_1] 25 (0, 0)) (by (with_reducible repeat (first | refine blk_drewN ?_ _ | refine blk_drew ?_ | refine blk_alloc ?_ _)); refine blk_put (cs := #[.int .i64 x117000_1, .int .i64 0]) ?_ 1 _ rfl; (with_reducible repeat (first | refine blk_drewN ?_ _ | refine blk_drew ?_ | refine blk_alloc ?_ _)); refine blk_put (cs := #[.int .i64 0, .int .i64 0]) ?_ 0 _ rfl; (with_reducible repeat (first | refine blk_drewN ?_ _ | refine blk_drew ?_ | refine blk_alloc ?_ _)); exact BK117.out) hb); have n2_ := Aside0.mk (below_step (by repeat (first | (with_reducible first | exact HB.out | apply below_alloc | apply pw_below_drewN | apply below_drew1 | refine below_set ?_ GE116.out | refine below_set ?_ GE117.out) | exact HB.out)) hb); clear BK116; clear BK117; clear HB; have BK116 := n0_; have BK117 := n1_; have HB := n2_; clear n0_ n1_ n2_; (try clear hb); (try clear hb2); (try clear hk); (try clear hi); have hcz114_0 : w113.cell? ⟨gb116, 0, none⟩ = some (.int .i64 x117000_1) := (blk_cell BK116.out 0).trans rfl; have hcz114_1 : w113.cell? ⟨gb116, 1, none⟩ = some (.int .i64 x117001_1) := (blk_cell BK116.out 1).trans rfl; have hfz114_0 := blk_frozen BK116.out 0; have hfz114_1 := blk_frozen BK116.out 1; have hcz115_0 : w113.cell? ⟨gb117, 0, none⟩ = some (.int .i64 x117000_1) := (blk_cell BK117.out 0).trans rfl; have hcz115_1 : w113.cell? ⟨gb117, 1, none⟩ = some (.int .i64 x117001_1) := (blk_cell BK117.out 1).trans rfl; have hfz115_0 := blk_frozen BK117.out 0; have hfz115_1 := blk_frozen BK117.out 1))
                  go_ret
                  exact ⟨by first | rfl | (simp [errW_none, errW_some] <;> rfl) | (simp only [← hji71]; first | rfl | (simp [errW_none, errW_some] <;> rfl)) | (simp [*, errW_none, errW_some] <;> rfl), by repeat (first | (with_reducible first | exact HB.out | apply below_alloc | apply pw_below_drewN | apply below_drew1 | refine below_set ?_ GE116.out | refine below_set ?_ GE117.out) | exact HB.out)⟩
            · rw [if_neg c11] at H
              exact absurd H (by simp)
          · rw [if_neg c10] at H
            have c10b0 : decide (x7_1 < (l1.length : Int)) = false := decide_eq_false c10
            clear c10
            obtain rfl := Option.some.inj H
            go_wp2
            go_ret
            exact ⟨by first | rfl | (simp [errW_none, errW_some] <;> rfl) | (simp [*, errW_none, errW_some] <;> rfl), by repeat (first | (with_reducible first | exact HB.out | apply below_alloc | apply pw_below_drewN | apply below_drew1 | refine below_set ?_ GE116.out) | exact HB.out)⟩
  · replace c4 := Bool.eq_false_iff.mpr c4
    subst c4
    have H1 : (some false) = some r := by rw [if_neg (show ¬ (false = true) by decide)] at H; exact H
    clear H
    have H := H1
    clear H1
    obtain rfl := Option.some.inj H
    go_enter Try.func4, Try.ntmps4
    go_wp2_with (first | ((with_reducible refine gate_callee (f := 16) rfl ?_); refine goesL_ (some 12) rfl rfl Try.func16 (by kernel_rfl) rfl #[] rfl (by (try simp only [List.map_toArray, List.map_cons, List.map_nil]); first | done | rfl | (simp only [List.length_drop, List.length_take]; rfl)) ?_; (with_reducible refine (paternosterlaw09_awake.calls  false _ A3.out).mono ?_); rintro e w116 ⟨rfl, hb⟩; refine ⟨_, rfl, ?_⟩; have n0_ := Aside0.mk (below_step (by repeat (first | (with_reducible first | exact HB.out | apply below_alloc | apply pw_below_drewN | apply below_drew1) | exact HB.out)) hb); clear HB; have HB := n0_; clear n0_; (try clear hb); (try clear hb2); (try clear hk); (try clear hi)))
    go_ret
    exact ⟨by first | rfl | (simp [errW_none, errW_some] <;> rfl) | (simp [*, errW_none, errW_some] <;> rfl), by repeat (first | (with_reducible first | exact HB.out | apply below_alloc | apply pw_below_drewN | apply below_drew1) | exact HB.out)⟩

/-- THE ONE PURE STATEMENT of paternosterlaw09_CellRuns: yours. -/
def paternosterlaw09_CellRuns.Pure : Prop := ∀ (a0 : Int) (l1 : List Int), (Lit.int .u16 a0).wf = true → l1.length ≤ maxLen → l1.length * 2 ≤ 140737488351232 → (∀ x ∈ l1, (Lit.int .i16 x).wf = true) → ∃ k, paternosterlaw09_CellRuns.f k a0 l1 = some true
theorem paternosterlaw09_CellRuns.walk (P : paternosterlaw09_CellRuns.Pure) (a0 : Int) (a1 : Option Addr) (len1 cap1 : Nat) (z1 : List Int) (w : World) (w0 : (Lit.int .u16 a0).wf = true) (w1 : (a1 = none ∧ len1 = 0 ∧ cap1 = 0 ∧ z1 = []) ∨ ∃ x, a1 = some x ∧ len1 ≤ cap1 ∧ cap1 ≤ maxLen ∧ z1.length = cap1 ∧ (∀ i, i < z1.length → w.cell? (x.add i) = some (.int .i16 (z1.getD i 0))) ∧ ∀ n ∈ z1, (Lit.int .i16 n).wf = true) (y1 : len1 * 2 ≤ 140737488351232) :
    Calls Try.prog 4 #[.int .u16 a0, .slice a1 len1 cap1] w fun e w' => e = .returned (.bool true) ∧ Below w.heap.size w w' := by
  obtain ⟨l1, rfl, hr1, hm1, hw1, hc1⟩ := ReadsInt.ofRowC w1
  obtain ⟨k, h⟩ := P a0 l1 w0 hm1 y1 hw1
  refine (paternosterlaw09_CellRuns.calls k a0 _ _ l1 true w (Kd.C_of_reads (d := (0 : Int)) (h1 := fun _ => rfl) hr1) hc1 h).mono ?_
  rintro e w' ⟨rfl, hd⟩
  exact ⟨rfl, hd⟩

end Go.Proofs.Ytnhiokgkhbiflaa.X
