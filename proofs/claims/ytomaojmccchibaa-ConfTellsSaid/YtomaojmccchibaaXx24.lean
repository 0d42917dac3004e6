-- Written by a program of this session (wip/xprint/xprint.py runs the kit's print with hand-proved externs).
import Derived.Test.YtomaojmccchibaaXx0
import Derived.Test.YtomaojmccchibaaXx23
namespace Go.Proofs.Ytomaojmccchibaa.X
open Go.RowKit Go.Proofs.YtomaojmccchibaaW.PrintWords Go.Proofs.YtomaojmccchibaaW.PrintLast Go.Proofs.YtomaojmccchibaaW.PrintMore
attribute [local go_sem] max2_int min2_int max_two min_two max_three min_three max_four min_four   -- for this text's walks alone
set_option linter.unusedVariables false
set_option linter.unusedSimpArgs false

/-! ### paternosterref04_Most: function 39 -/
def paternosterref04_Most.l0 : Nat → Int → Int → Int → Int → Int → Int → Int → Int → Option (Int)
  | 0, _, _, _, _, _, _, _, _ => none
  | k + 1, x3, x4, x309000, x309001, x309002, x309003, x309004, x309005 => if x4 < 65 then ((paternosterref04_Peak.f k x309000 x309001 x309002 x309003 x309004 x309005 x4 1).bind fun t309 => ((paternosterref04_Peak.f k x309000 x309001 x309002 x309003 x309004 x309005 x4 (-1)).bind fun t310 => (if t309 > x3 then (if t310 > t309 then (paternosterref04_Most.l0 k t310 (wrap64 (x4 + 1)) x309000 x309001 x309002 x309003 x309004 x309005) else (paternosterref04_Most.l0 k t309 (wrap64 (x4 + 1)) x309000 x309001 x309002 x309003 x309004 x309005)) else (if t310 > x3 then (paternosterref04_Most.l0 k t310 (wrap64 (x4 + 1)) x309000 x309001 x309002 x309003 x309004 x309005) else (paternosterref04_Most.l0 k x3 (wrap64 (x4 + 1)) x309000 x309001 x309002 x309003 x309004 x309005))))) else (some x3)
def paternosterref04_Most.f (k : Nat) (a0_0 : Int) (a0_1 : Int) (a0_2 : Int) (a0_3 : Int) (a0_4 : Int) (a0_5 : Int) : Option (Int) := paternosterref04_Most.l0 k 0 0 a0_0 a0_1 a0_2 a0_3 a0_4 a0_5
theorem paternosterref04_Most.mono_l : ∀ k, (∀ y0 y1 y2 y3 y4 y5 y6 y7, LeO (paternosterref04_Most.l0 k y0 y1 y2 y3 y4 y5 y6 y7) (paternosterref04_Most.l0 (k + 1) y0 y1 y2 y3 y4 y5 y6 y7))
  | 0 => fun _ _ _ _ _ _ _ _ r h => by simp [paternosterref04_Most.l0] at h
  | k + 1 => by
    have ih0 := paternosterref04_Most.mono_l k
    · intro y0 y1 y2 y3 y4 y5 y6 y7
      unfold paternosterref04_Most.l0
      repeat' first
      | (with_reducible exact ih0 _ _ _ _ _ _ _ _)
      | (with_reducible exact paternosterref04_Peak.mono _ _ _ _ _ _ _ _ _)
      | (with_reducible exact LeO.refl _)
      | (with_reducible exact LeO.none _)
      | (with_reducible refine LeO.ite ?_ ?_)
      | (with_reducible refine LeO.bind ?_ (fun _ => ?_))
      | exact ih0 _ _ _ _ _ _ _ _
      | exact paternosterref04_Peak.mono _ _ _ _ _ _ _ _ _
      | exact LeO.none _
      | refine LeO.ite ?_ ?_
      | refine LeO.bind ?_ (fun _ => ?_)
theorem paternosterref04_Most.mono : ∀ a0 a1 a2 a3 a4 a5 k, LeO (paternosterref04_Most.f k a0 a1 a2 a3 a4 a5) (paternosterref04_Most.f (k + 1) a0 a1 a2 a3 a4 a5) := by
  intro a0 a1 a2 a3 a4 a5 k
  have ih0 := paternosterref04_Most.mono_l k
  unfold paternosterref04_Most.f
  repeat' first
      | (with_reducible exact ih0 _ _ _ _ _ _ _ _)
      | (with_reducible exact paternosterref04_Peak.mono _ _ _ _ _ _ _ _ _)
      | (with_reducible exact LeO.refl _)
      | (with_reducible exact LeO.none _)
      | (with_reducible refine LeO.ite ?_ ?_)
      | (with_reducible refine LeO.bind ?_ (fun _ => ?_))
      | exact ih0 _ _ _ _ _ _ _ _
      | exact paternosterref04_Peak.mono _ _ _ _ _ _ _ _ _
      | exact LeO.none _
      | refine LeO.ite ?_ ?_
      | refine LeO.bind ?_ (fun _ => ?_)
set_option maxHeartbeats 8000000 in
set_option maxRecDepth 100000 in
theorem paternosterref04_Most.calls (k : Nat) (a0_0 : Int) (a0_1 : Int) (a0_2 : Int) (a0_3 : Int) (a0_4 : Int) (a0_5 : Int) (r : Int) (w : World) (h : paternosterref04_Most.f k a0_0 a0_1 a0_2 a0_3 a0_4 a0_5 = some r) :
    Calls Try.prog 39 #[.agg #[.int .i64 a0_0, .int .i64 a0_1, .int .i64 a0_2, .int .i64 a0_3, .int .i64 a0_4, .int .i64 a0_5]] w fun e w' => e = .returned (.int .i64 r) ∧ Below w.heap.size w w' := by
  have hu45 := Try.underlying45
  have HB := Aside0.mk (Below.refl w.heap.size w)
  have H : (paternosterref04_Most.l0 k 0 0 a0_0 a0_1 a0_2 a0_3 a0_4 a0_5) = some r := h
  clear h
  have H' := Aside0.mk H
  clear H
  go_enter Try.func39, Try.ntmps39
  go_wp2_with (first | ((with_reducible refine gate_dst (N := 1) rfl ?_); refine box_event ?hg (N := 1) ?hd (cs := #[.int .i64 a0_0, .int .i64 a0_1, .int .i64 a0_2, .int .i64 a0_3, .int .i64 a0_4, .int .i64 a0_5]) (t := 45) ?hr ?_; (case hd => rfl); (case hg => rfl); (case hr => first | (go_simp; done) | (go_simp; rfl)); intro gb308 hg w2 hbox hb; have n0_ := Aside0.mk (below_step (by repeat (first | (with_reducible first | exact HB.out | apply below_alloc | apply pw_below_drewN | apply below_drew1) | exact HB.out)) hb); have n1_ := Aside0.mk (hbox); have n2_ := Aside0.mk ((by rw [hg]; exact (below_size (by repeat (first | (with_reducible first | exact HB.out | apply below_alloc | apply pw_below_drewN | apply below_drew1) | exact HB.out))) : w.heap.size ≤ gb308)); have n3_ := Aside0.mk ((by rw [hg]; exact (below_size (by repeat (first | (with_reducible first | exact HB.out | apply below_alloc | apply pw_below_drewN | apply below_drew1) | exact HB.out))) : w.heap.size ≤ gb308)); clear HB; have HB := n0_; have BK308 := n1_; have GW308 := n2_; have GE308 := n3_; clear n0_ n1_ n2_ n3_; clear hb hbox hg))
  go_loopg [3, 4] k (fun kq v3 v4 w' => ∃ (x3_1 : Int) (x4_1 : Int), v3 = .int .i64 x3_1 ∧ v4 = .int .i64 x4_1 ∧ Aside0 (paternosterref04_Most.l0 kq x3_1 x4_1 a0_0 a0_1 a0_2 a0_3 a0_4 a0_5 = some r) ∧ Aside0 (kq ≤ k) ∧ Aside0 (w'.heap[gb308]? = some (.cells #[.int .i64 a0_0, .int .i64 a0_1, .int .i64 a0_2, .int .i64 a0_3, .int .i64 a0_4, .int .i64 a0_5] 45 (0, 0))) ∧ Aside0 (Below w.heap.size w w'))
  case atStart => exact ⟨(0), (0), (by first | rfl | (simp; done) | (simp [*]; done)), (by first | rfl | (simp; done) | (simp [*]; done)), H', ⟨Nat.le_refl _⟩, ⟨by (with_reducible repeat (first | refine blk_drewN ?_ _ | refine blk_drew ?_ | refine blk_alloc ?_ _)); exact BK308.out⟩, ⟨by repeat (first | (with_reducible first | exact HB.out | apply below_alloc | apply pw_below_drewN | apply below_drew1 | refine below_set ?_ GE308.out) | exact HB.out)⟩⟩
  case round =>
    clear H'
    try clear p2
    obtain ⟨x3_1, x4_1, rfl, rfl, HA, HK1, BK308, HB⟩ := hrel
    cases gk with
    | zero => exact absurd HA.out (by simp [paternosterref04_Most.l0])
    | succ k1 =>
      have H := HA.out
      clear HA
      simp only [paternosterref04_Most.l0] at H
      by_cases c3 : x4_1 < 65
      · rw [if_pos c3] at H
        have c3b0 : decide (x4_1 < 65) = true := decide_eq_true c3
        clear c3
        replace H := Option.bind_eq_some_iff.mp H
        obtain ⟨t309, A40, H⟩ := H
        replace H : ((paternosterref04_Peak.f k1 a0_0 a0_1 a0_2 a0_3 a0_4 a0_5 x4_1 (-1)).bind fun t310 => (if t309 > x3_1 then (if t310 > t309 then (paternosterref04_Most.l0 k1 t310 (wrap64 (x4_1 + 1)) a0_0 a0_1 a0_2 a0_3 a0_4 a0_5) else (paternosterref04_Most.l0 k1 t309 (wrap64 (x4_1 + 1)) a0_0 a0_1 a0_2 a0_3 a0_4 a0_5)) else (if t310 > x3_1 then (paternosterref04_Most.l0 k1 t310 (wrap64 (x4_1 + 1)) a0_0 a0_1 a0_2 a0_3 a0_4 a0_5) else (paternosterref04_Most.l0 k1 x3_1 (wrap64 (x4_1 + 1)) a0_0 a0_1 a0_2 a0_3 a0_4 a0_5)))) = some r := H
        have A4 := Aside0.mk A40
        clear A40
        replace H := Option.bind_eq_some_iff.mp H
        obtain ⟨t310, A50, H⟩ := H
        replace H : (if t309 > x3_1 then (if t310 > t309 then (paternosterref04_Most.l0 k1 t310 (wrap64 (x4_1 + 1)) a0_0 a0_1 a0_2 a0_3 a0_4 a0_5) else (paternosterref04_Most.l0 k1 t309 (wrap64 (x4_1 + 1)) a0_0 a0_1 a0_2 a0_3 a0_4 a0_5)) else (if t310 > x3_1 then (paternosterref04_Most.l0 k1 t310 (wrap64 (x4_1 + 1)) a0_0 a0_1 a0_2 a0_3 a0_4 a0_5) else (paternosterref04_Most.l0 k1 x3_1 (wrap64 (x4_1 + 1)) a0_0 a0_1 a0_2 a0_3 a0_4 a0_5))) = some r := H
        have A5 := Aside0.mk A50
        clear A50
        by_cases c6 : t309 > x3_1
        · rw [if_pos c6] at H
          have c6b0 : decide (x3_1 < t309) = true := decide_eq_true c6
          clear c6
          by_cases c7 : t310 > t309
          · rw [if_pos c7] at H
            have c7b0 : decide (t309 < t310) = true := decide_eq_true c7
            clear c7
            have H' := Aside0.mk H
            clear H
            have hcz8_0 : wr.cell? ⟨gb308, 0, none⟩ = some (.int .i64 a0_0) := (blk_cell BK308.out 0).trans rfl
            have hcz8_1 : wr.cell? ⟨gb308, 1, none⟩ = some (.int .i64 a0_1) := (blk_cell BK308.out 1).trans rfl
            have hcz8_2 : wr.cell? ⟨gb308, 2, none⟩ = some (.int .i64 a0_2) := (blk_cell BK308.out 2).trans rfl
            have hcz8_3 : wr.cell? ⟨gb308, 3, none⟩ = some (.int .i64 a0_3) := (blk_cell BK308.out 3).trans rfl
            have hcz8_4 : wr.cell? ⟨gb308, 4, none⟩ = some (.int .i64 a0_4) := (blk_cell BK308.out 4).trans rfl
            have hcz8_5 : wr.cell? ⟨gb308, 5, none⟩ = some (.int .i64 a0_5) := (blk_cell BK308.out 5).trans rfl
            have hfz8_0 := blk_frozen BK308.out 0
            have hfz8_1 := blk_frozen BK308.out 1
            have hfz8_2 := blk_frozen BK308.out 2
            have hfz8_3 := blk_frozen BK308.out 3
            have hfz8_4 := blk_frozen BK308.out 4
            have hfz8_5 := blk_frozen BK308.out 5
            go_wp2_with (first | ((with_reducible refine gate_callee (f := 38) rfl ?_); refine goesL_ (some 13) rfl rfl Try.func38 (by kernel_rfl) rfl #[.agg #[.int .i64 a0_0, .int .i64 a0_1, .int .i64 a0_2, .int .i64 a0_3, .int .i64 a0_4, .int .i64 a0_5], .int .i64 x4_1, .int .i64 1] rfl (by (try simp only [List.map_toArray, List.map_cons, List.map_nil]); first | done | rfl | (simp only [List.length_drop, List.length_take]; rfl)) ?_; (with_reducible refine (paternosterref04_Peak.calls k1 a0_0 a0_1 a0_2 a0_3 a0_4 a0_5 x4_1 1 t309 _ A4.out).mono ?_); rintro e w9 ⟨rfl, hb⟩; refine ⟨_, rfl, ?_⟩; have n0_ := Aside0.mk (blk_below (g := gb308) (o := .cells #[.int .i64 a0_0, .int .i64 a0_1, .int .i64 a0_2, .int .i64 a0_3, .int .i64 a0_4, .int .i64 a0_5] 45 (0, 0)) (by (with_reducible repeat (first | refine blk_drewN ?_ _ | refine blk_drew ?_ | refine blk_alloc ?_ _)); exact BK308.out) hb); have n1_ := Aside0.mk (below_step (by repeat (first | (with_reducible first | exact HB.out | apply below_alloc | apply pw_below_drewN | apply below_drew1 | refine below_set ?_ GE308.out) | exact HB.out)) hb); clear BK308; clear HB; have BK308 := n0_; have HB := n1_; clear n0_ n1_; (try clear hb); (try clear hb2); (try clear hk); (try clear hi); have hcz10_0 : w9.cell? ⟨gb308, 0, none⟩ = some (.int .i64 a0_0) := (blk_cell BK308.out 0).trans rfl; have hcz10_1 : w9.cell? ⟨gb308, 1, none⟩ = some (.int .i64 a0_1) := (blk_cell BK308.out 1).trans rfl; have hcz10_2 : w9.cell? ⟨gb308, 2, none⟩ = some (.int .i64 a0_2) := (blk_cell BK308.out 2).trans rfl; have hcz10_3 : w9.cell? ⟨gb308, 3, none⟩ = some (.int .i64 a0_3) := (blk_cell BK308.out 3).trans rfl; have hcz10_4 : w9.cell? ⟨gb308, 4, none⟩ = some (.int .i64 a0_4) := (blk_cell BK308.out 4).trans rfl; have hcz10_5 : w9.cell? ⟨gb308, 5, none⟩ = some (.int .i64 a0_5) := (blk_cell BK308.out 5).trans rfl; have hfz10_0 := blk_frozen BK308.out 0; have hfz10_1 := blk_frozen BK308.out 1; have hfz10_2 := blk_frozen BK308.out 2; have hfz10_3 := blk_frozen BK308.out 3; have hfz10_4 := blk_frozen BK308.out 4; have hfz10_5 := blk_frozen BK308.out 5) | ((with_reducible refine gate_callee (f := 38) rfl ?_); refine goesL_ (some 16) rfl rfl Try.func38 (by kernel_rfl) rfl #[.agg #[.int .i64 a0_0, .int .i64 a0_1, .int .i64 a0_2, .int .i64 a0_3, .int .i64 a0_4, .int .i64 a0_5], .int .i64 x4_1, .int .i64 (-1)] rfl (by (try simp only [List.map_toArray, List.map_cons, List.map_nil]); first | done | rfl | (simp only [List.length_drop, List.length_take]; rfl)) ?_; (with_reducible refine (paternosterref04_Peak.calls k1 a0_0 a0_1 a0_2 a0_3 a0_4 a0_5 x4_1 (-1) t310 _ A5.out).mono ?_); rintro e w11 ⟨rfl, hb⟩; refine ⟨_, rfl, ?_⟩; have n0_ := Aside0.mk (blk_below (g := gb308) (o := .cells #[.int .i64 a0_0, .int .i64 a0_1, .int .i64 a0_2, .int .i64 a0_3, .int .i64 a0_4, .int .i64 a0_5] 45 (0, 0)) (by (with_reducible repeat (first | refine blk_drewN ?_ _ | refine blk_drew ?_ | refine blk_alloc ?_ _)); exact BK308.out) hb); have n1_ := Aside0.mk (below_step (by repeat (first | (with_reducible first | exact HB.out | apply below_alloc | apply pw_below_drewN | apply below_drew1 | refine below_set ?_ GE308.out) | exact HB.out)) hb); clear BK308; clear HB; have BK308 := n0_; have HB := n1_; clear n0_ n1_; (try clear hb); (try clear hb2); (try clear hk); (try clear hi)))
            go_roundg k1
            case measure => have := HK1.out; omega
            case rel => exact ⟨(t310), (wrap64 (x4_1 + 1)), (by first | rfl | (simp; done) | (simp [*]; done)), (by first | rfl | (simp; done) | (simp [*]; done)), H', ⟨by have := HK1.out; omega⟩, ⟨by (with_reducible repeat (first | refine blk_drewN ?_ _ | refine blk_drew ?_ | refine blk_alloc ?_ _)); exact BK308.out⟩, ⟨by repeat (first | (with_reducible first | exact HB.out | apply below_alloc | apply pw_below_drewN | apply below_drew1 | refine below_set ?_ GE308.out) | exact HB.out)⟩⟩
          · rw [if_neg c7] at H
            have c7b0 : decide (t309 < t310) = false := decide_eq_false c7
            clear c7
            have H' := Aside0.mk H
            clear H
            have hcz12_0 : wr.cell? ⟨gb308, 0, none⟩ = some (.int .i64 a0_0) := (blk_cell BK308.out 0).trans rfl
            have hcz12_1 : wr.cell? ⟨gb308, 1, none⟩ = some (.int .i64 a0_1) := (blk_cell BK308.out 1).trans rfl
            have hcz12_2 : wr.cell? ⟨gb308, 2, none⟩ = some (.int .i64 a0_2) := (blk_cell BK308.out 2).trans rfl
            have hcz12_3 : wr.cell? ⟨gb308, 3, none⟩ = some (.int .i64 a0_3) := (blk_cell BK308.out 3).trans rfl
            have hcz12_4 : wr.cell? ⟨gb308, 4, none⟩ = some (.int .i64 a0_4) := (blk_cell BK308.out 4).trans rfl
            have hcz12_5 : wr.cell? ⟨gb308, 5, none⟩ = some (.int .i64 a0_5) := (blk_cell BK308.out 5).trans rfl
            have hfz12_0 := blk_frozen BK308.out 0
            have hfz12_1 := blk_frozen BK308.out 1
            have hfz12_2 := blk_frozen BK308.out 2
            have hfz12_3 := blk_frozen BK308.out 3
            have hfz12_4 := blk_frozen BK308.out 4
            have hfz12_5 := blk_frozen BK308.out 5
            go_wp2_with (first | ((with_reducible refine gate_callee (f := 38) rfl ?_); refine goesL_ (some 13) rfl rfl Try.func38 (by kernel_rfl) rfl #[.agg #[.int .i64 a0_0, .int .i64 a0_1, .int .i64 a0_2, .int .i64 a0_3, .int .i64 a0_4, .int .i64 a0_5], .int .i64 x4_1, .int .i64 1] rfl (by (try simp only [List.map_toArray, List.map_cons, List.map_nil]); first | done | rfl | (simp only [List.length_drop, List.length_take]; rfl)) ?_; (with_reducible refine (paternosterref04_Peak.calls k1 a0_0 a0_1 a0_2 a0_3 a0_4 a0_5 x4_1 1 t309 _ A4.out).mono ?_); rintro e w13 ⟨rfl, hb⟩; refine ⟨_, rfl, ?_⟩; have n0_ := Aside0.mk (blk_below (g := gb308) (o := .cells #[.int .i64 a0_0, .int .i64 a0_1, .int .i64 a0_2, .int .i64 a0_3, .int .i64 a0_4, .int .i64 a0_5] 45 (0, 0)) (by (with_reducible repeat (first | refine blk_drewN ?_ _ | refine blk_drew ?_ | refine blk_alloc ?_ _)); exact BK308.out) hb); have n1_ := Aside0.mk (below_step (by repeat (first | (with_reducible first | exact HB.out | apply below_alloc | apply pw_below_drewN | apply below_drew1 | refine below_set ?_ GE308.out) | exact HB.out)) hb); clear BK308; clear HB; have BK308 := n0_; have HB := n1_; clear n0_ n1_; (try clear hb); (try clear hb2); (try clear hk); (try clear hi); have hcz14_0 : w13.cell? ⟨gb308, 0, none⟩ = some (.int .i64 a0_0) := (blk_cell BK308.out 0).trans rfl; have hcz14_1 : w13.cell? ⟨gb308, 1, none⟩ = some (.int .i64 a0_1) := (blk_cell BK308.out 1).trans rfl; have hcz14_2 : w13.cell? ⟨gb308, 2, none⟩ = some (.int .i64 a0_2) := (blk_cell BK308.out 2).trans rfl; have hcz14_3 : w13.cell? ⟨gb308, 3, none⟩ = some (.int .i64 a0_3) := (blk_cell BK308.out 3).trans rfl; have hcz14_4 : w13.cell? ⟨gb308, 4, none⟩ = some (.int .i64 a0_4) := (blk_cell BK308.out 4).trans rfl; have hcz14_5 : w13.cell? ⟨gb308, 5, none⟩ = some (.int .i64 a0_5) := (blk_cell BK308.out 5).trans rfl; have hfz14_0 := blk_frozen BK308.out 0; have hfz14_1 := blk_frozen BK308.out 1; have hfz14_2 := blk_frozen BK308.out 2; have hfz14_3 := blk_frozen BK308.out 3; have hfz14_4 := blk_frozen BK308.out 4; have hfz14_5 := blk_frozen BK308.out 5) | ((with_reducible refine gate_callee (f := 38) rfl ?_); refine goesL_ (some 16) rfl rfl Try.func38 (by kernel_rfl) rfl #[.agg #[.int .i64 a0_0, .int .i64 a0_1, .int .i64 a0_2, .int .i64 a0_3, .int .i64 a0_4, .int .i64 a0_5], .int .i64 x4_1, .int .i64 (-1)] rfl (by (try simp only [List.map_toArray, List.map_cons, List.map_nil]); first | done | rfl | (simp only [List.length_drop, List.length_take]; rfl)) ?_; (with_reducible refine (paternosterref04_Peak.calls k1 a0_0 a0_1 a0_2 a0_3 a0_4 a0_5 x4_1 (-1) t310 _ A5.out).mono ?_); rintro e w15 ⟨rfl, hb⟩; refine ⟨_, rfl, ?_⟩; have n0_ := Aside0.mk (blk_below (g := gb308) (o := .cells #[.int .i64 a0_0, .int .i64 a0_1, .int .i64 a0_2, .int .i64 a0_3, .int .i64 a0_4, .int .i64 a0_5] 45 (0, 0)) (by (with_reducible repeat (first | refine blk_drewN ?_ _ | refine blk_drew ?_ | refine blk_alloc ?_ _)); exact BK308.out) hb); have n1_ := Aside0.mk (below_step (by repeat (first | (with_reducible first | exact HB.out | apply below_alloc | apply pw_below_drewN | apply below_drew1 | refine below_set ?_ GE308.out) | exact HB.out)) hb); clear BK308; clear HB; have BK308 := n0_; have HB := n1_; clear n0_ n1_; (try clear hb); (try clear hb2); (try clear hk); (try clear hi)))
            go_roundg k1
            case measure => have := HK1.out; omega
            case rel => exact ⟨(t309), (wrap64 (x4_1 + 1)), (by first | rfl | (simp; done) | (simp [*]; done)), (by first | rfl | (simp; done) | (simp [*]; done)), H', ⟨by have := HK1.out; omega⟩, ⟨by (with_reducible repeat (first | refine blk_drewN ?_ _ | refine blk_drew ?_ | refine blk_alloc ?_ _)); exact BK308.out⟩, ⟨by repeat (first | (with_reducible first | exact HB.out | apply below_alloc | apply pw_below_drewN | apply below_drew1 | refine below_set ?_ GE308.out) | exact HB.out)⟩⟩
        · rw [if_neg c6] at H
          have c6b0 : decide (x3_1 < t309) = false := decide_eq_false c6
          clear c6
          by_cases c16 : t310 > x3_1
          · rw [if_pos c16] at H
            have c16b0 : decide (x3_1 < t310) = true := decide_eq_true c16
            clear c16
            have H' := Aside0.mk H
            clear H
            have hcz17_0 : wr.cell? ⟨gb308, 0, none⟩ = some (.int .i64 a0_0) := (blk_cell BK308.out 0).trans rfl
            have hcz17_1 : wr.cell? ⟨gb308, 1, none⟩ = some (.int .i64 a0_1) := (blk_cell BK308.out 1).trans rfl
            have hcz17_2 : wr.cell? ⟨gb308, 2, none⟩ = some (.int .i64 a0_2) := (blk_cell BK308.out 2).trans rfl
            have hcz17_3 : wr.cell? ⟨gb308, 3, none⟩ = some (.int .i64 a0_3) := (blk_cell BK308.out 3).trans rfl
            have hcz17_4 : wr.cell? ⟨gb308, 4, none⟩ = some (.int .i64 a0_4) := (blk_cell BK308.out 4).trans rfl
            have hcz17_5 : wr.cell? ⟨gb308, 5, none⟩ = some (.int .i64 a0_5) := (blk_cell BK308.out 5).trans rfl
            have hfz17_0 := blk_frozen BK308.out 0
            have hfz17_1 := blk_frozen BK308.out 1
            have hfz17_2 := blk_frozen BK308.out 2
            have hfz17_3 := blk_frozen BK308.out 3
            have hfz17_4 := blk_frozen BK308.out 4
            have hfz17_5 := blk_frozen BK308.out 5
            go_wp2_with (first | ((with_reducible refine gate_callee (f := 38) rfl ?_); refine goesL_ (some 13) rfl rfl Try.func38 (by kernel_rfl) rfl #[.agg #[.int .i64 a0_0, .int .i64 a0_1, .int .i64 a0_2, .int .i64 a0_3, .int .i64 a0_4, .int .i64 a0_5], .int .i64 x4_1, .int .i64 1] rfl (by (try simp only [List.map_toArray, List.map_cons, List.map_nil]); first | done | rfl | (simp only [List.length_drop, List.length_take]; rfl)) ?_; (with_reducible refine (paternosterref04_Peak.calls k1 a0_0 a0_1 a0_2 a0_3 a0_4 a0_5 x4_1 1 t309 _ A4.out).mono ?_); rintro e w18 ⟨rfl, hb⟩; refine ⟨_, rfl, ?_⟩; have n0_ := Aside0.mk (blk_below (g := gb308) (o := .cells #[.int .i64 a0_0, .int .i64 a0_1, .int .i64 a0_2, .int .i64 a0_3, .int .i64 a0_4, .int .i64 a0_5] 45 (0, 0)) (by (with_reducible repeat (first | refine blk_drewN ?_ _ | refine blk_drew ?_ | refine blk_alloc ?_ _)); exact BK308.out) hb); have n1_ := Aside0.mk (below_step (by repeat (first | (with_reducible first | exact HB.out | apply below_alloc | apply pw_below_drewN | apply below_drew1 | refine below_set ?_ GE308.out) | exact HB.out)) hb); clear BK308; clear HB; have BK308 := n0_; have HB := n1_; clear n0_ n1_; (try clear hb); (try clear hb2); (try clear hk); (try clear hi); have hcz19_0 : w18.cell? ⟨gb308, 0, none⟩ = some (.int .i64 a0_0) := (blk_cell BK308.out 0).trans rfl; have hcz19_1 : w18.cell? ⟨gb308, 1, none⟩ = some (.int .i64 a0_1) := (blk_cell BK308.out 1).trans rfl; have hcz19_2 : w18.cell? ⟨gb308, 2, none⟩ = some (.int .i64 a0_2) := (blk_cell BK308.out 2).trans rfl; have hcz19_3 : w18.cell? ⟨gb308, 3, none⟩ = some (.int .i64 a0_3) := (blk_cell BK308.out 3).trans rfl; have hcz19_4 : w18.cell? ⟨gb308, 4, none⟩ = some (.int .i64 a0_4) := (blk_cell BK308.out 4).trans rfl; have hcz19_5 : w18.cell? ⟨gb308, 5, none⟩ = some (.int .i64 a0_5) := (blk_cell BK308.out 5).trans rfl; have hfz19_0 := blk_frozen BK308.out 0; have hfz19_1 := blk_frozen BK308.out 1; have hfz19_2 := blk_frozen BK308.out 2; have hfz19_3 := blk_frozen BK308.out 3; have hfz19_4 := blk_frozen BK308.out 4; have hfz19_5 := blk_frozen BK308.out 5) | ((with_reducible refine gate_callee (f := 38) rfl ?_); refine goesL_ (some 16) rfl rfl Try.func38 (by kernel_rfl) rfl #[.agg #[.int .i64 a0_0, .int .i64 a0_1, .int .i64 a0_2, .int .i64 a0_3, .int .i64 a0_4, .int .i64 a0_5], .int .i64 x4_1, .int .i64 (-1)] rfl (by (try simp only [List.map_toArray, List.map_cons, List.map_nil]); first | done | rfl | (simp only [List.length_drop, List.length_take]; rfl)) ?_; (with_reducible refine (paternosterref04_Peak.calls k1 a0_0 a0_1 a0_2 a0_3 a0_4 a0_5 x4_1 (-1) t310 _ A5.out).mono ?_); rintro e w20 ⟨rfl, hb⟩; refine ⟨_, rfl, ?_⟩; have n0_ := Aside0.mk (blk_below (g := gb308) (o := .cells #[.int .i64 a0_0, .int .i64 a0_1, .int .i64 a0_2, .int .i64 a0_3, .int .i64 a0_4, .int .i64 a0_5] 45 (0, 0)) (by (with_reducible repeat (first | refine blk_drewN ?_ _ | refine blk_drew ?_ | refine blk_alloc ?_ _)); exact BK308.out) hb); have n1_ := Aside0.mk (below_step (by repeat (first | (with_reducible first | exact HB.out | apply below_alloc | apply pw_below_drewN | apply below_drew1 | refine below_set ?_ GE308.out) | exact HB.out)) hb); clear BK308; clear HB; have BK308 := n0_; have HB := n1_; clear n0_ n1_; (try clear hb); (try clear hb2); (try clear hk); (try clear hi)))
            go_roundg k1
            case measure => have := HK1.out; omega
            case rel => exact ⟨(t310), (wrap64 (x4_1 + 1)), (by first | rfl | (simp; done) | (simp [*]; done)), (by first | rfl | (simp; done) | (simp [*]; done)), H', ⟨by have := HK1.out; omega⟩, ⟨by (with_reducible repeat (first | refine blk_drewN ?_ _ | refine blk_drew ?_ | refine blk_alloc ?_ _)); exact BK308.out⟩, ⟨by repeat (first | (with_reducible first | exact HB.out | apply below_alloc | apply pw_below_drewN | apply below_drew1 | refine below_set ?_ GE308.out) | exact HB.out)⟩⟩
          · rw [if_neg c16] at H
            have c16b0 : decide (x3_1 < t310) = false := decide_eq_false c16
            clear c16
            have H' := Aside0.mk H
            clear H
            have hcz21_0 : wr.cell? ⟨gb308, 0, none⟩ = some (.int .i64 a0_0) := (blk_cell BK308.out 0).trans rfl
            have hcz21_1 : wr.cell? ⟨gb308, 1, none⟩ = some (.int .i64 a0_1) := (blk_cell BK308.out 1).trans rfl
            have hcz21_2 : wr.cell? ⟨gb308, 2, none⟩ = some (.int .i64 a0_2) := (blk_cell BK308.out 2).trans rfl
            have hcz21_3 : wr.cell? ⟨gb308, 3, none⟩ = some (.int .i64 a0_3) := (blk_cell BK308.out 3).trans rfl
            have hcz21_4 : wr.cell? ⟨gb308, 4, none⟩ = some (.int .i64 a0_4) := (blk_cell BK308.out 4).trans rfl
            have hcz21_5 : wr.cell? ⟨gb308, 5, none⟩ = some (.int .i64 a0_5) := (blk_cell BK308.out 5).trans rfl
            have hfz21_0 := blk_frozen BK308.out 0
            have hfz21_1 := blk_frozen BK308.out 1
            have hfz21_2 := blk_frozen BK308.out 2
            have hfz21_3 := blk_frozen BK308.out 3
            have hfz21_4 := blk_frozen BK308.out 4
            have hfz21_5 := blk_frozen BK308.out 5
            go_wp2_with (first | ((with_reducible refine gate_callee (f := 38) rfl ?_); refine goesL_ (some 13) rfl rfl Try.func38 (by kernel_rfl) rfl #[.agg #[.int .i64 a0_0, .int .i64 a0_1, .int .i64 a0_2, .int .i64 a0_3, .int .i64 a0_4, .int .i64 a0_5], .int .i64 x4_1, .int .i64 1] rfl (by (try simp only [List.map_toArray, List.map_cons, List.map_nil]); first | done | rfl | (simp only [List.length_drop, List.length_take]; rfl)) ?_; (with_reducible refine (paternosterref04_Peak.calls k1 a0_0 a0_1 a0_2 a0_3 a0_4 a0_5 x4_1 1 t309 _ A4.out).mono ?_); rintro e w22 ⟨rfl, hb⟩; refine ⟨_, rfl, ?_⟩; have n0_ := Aside0.mk (blk_below (g := gb308) (o := .cells #[.int .i64 a0_0, .int .i64 a0_1, .int .i64 a0_2, .int .i64 a0_3, .int .i64 a0_4, .int .i64 a0_5] 45 (0, 0)) (by (with_reducible repeat (first | refine blk_drewN ?_ _ | refine blk_drew ?_ | refine blk_alloc ?_ _)); exact BK308.out) hb); have n1_ := Aside0.mk (below_step (by repeat (first | (with_reducible first | exact HB.out | apply below_alloc | apply pw_below_drewN | apply below_drew1 | refine below_set ?_ GE308.out) | exact HB.out)) hb); clear BK308; clear HB; have BK308 := n0_; have HB := n1_; clear n0_ n1_; (try clear hb); (try clear hb2); (try clear hk); (try clear hi); have hcz23_0 : w22.cell? ⟨gb308, 0, none⟩ = some (.int .i64 a0_0) := (blk_cell BK308.out 0).trans rfl; have hcz23_1 : w22.cell? ⟨gb308, 1, none⟩ = some (.int .i64 a0_1) := (blk_cell BK308.out 1).trans rfl; have hcz23_2 : w22.cell? ⟨gb308, 2, none⟩ = some (.int .i64 a0_2) := (blk_cell BK308.out 2).trans rfl; have hcz23_3 : w22.cell? ⟨gb308, 3, none⟩ = some (.int .i64 a0_3) := (blk_cell BK308.out 3).trans rfl; have hcz23_4 : w22.cell? ⟨gb308, 4, none⟩ = some (.int .i64 a0_4) := (blk_cell BK308.out 4).trans rfl; have hcz23_5 : w22.cell? ⟨gb308, 5, none⟩ = some (.int .i64 a0_5) := (blk_cell BK308.out 5).trans rfl; have hfz23_0 := blk_frozen BK308.out 0; have hfz23_1 := blk_frozen BK308.out 1; have hfz23_2 := blk_frozen BK308.out 2; have hfz23_3 := blk_frozen BK308.out 3; have hfz23_4 := blk_frozen BK308.out 4; have hfz23_5 := blk_frozen BK308.out 5) | ((with_reducible refine gate_callee (f := 38) rfl ?_); refine goesL_ (some 16) rfl rfl Try.func38 (by kernel_rfl) rfl #[.agg #[.int .i64 a0_0, .int .i64 a0_1, .int .i64 a0_2, .int .i64 a0_3, .int .i64 a0_4, .int .i64 a0_5], .int .i64 x4_1, .int .i64 (-1)] rfl (by (try simp only [List.map_toArray, List.map_cons, List.map_nil]); first | done | rfl | (simp only [List.length_drop, List.length_take]; rfl)) ?_; (with_reducible refine (paternosterref04_Peak.calls k1 a0_0 a0_1 a0_2 a0_3 a0_4 a0_5 x4_1 (-1) t310 _ A5.out).mono ?_); rintro e w24 ⟨rfl, hb⟩; refine ⟨_, rfl, ?_⟩; have n0_ := Aside0.mk (blk_below (g := gb308) (o := .cells #[.int .i64 a0_0, .int .i64 a0_1, .int .i64 a0_2, .int .i64 a0_3, .int .i64 a0_4, .int .i64 a0_5] 45 (0, 0)) (by (with_reducible repeat (first | refine blk_drewN ?_ _ | refine blk_drew ?_ | refine blk_alloc ?_ _)); exact BK308.out) hb); have n1_ := Aside0.mk (below_step (by repeat (first | (with_reducible first | exact HB.out | apply below_alloc | apply pw_below_drewN | apply below_drew1 | refine below_set ?_ GE308.out) | exact HB.out)) hb); clear BK308; clear HB; have BK308 := n0_; have HB := n1_; clear n0_ n1_; (try clear hb); (try clear hb2); (try clear hk); (try clear hi)))
            go_roundg k1
            case measure => have := HK1.out; omega
            case rel => exact ⟨(x3_1), (wrap64 (x4_1 + 1)), (by first | rfl | (simp; done) | (simp [*]; done)), (by first | rfl | (simp; done) | (simp [*]; done)), H', ⟨by have := HK1.out; omega⟩, ⟨by (with_reducible repeat (first | refine blk_drewN ?_ _ | refine blk_drew ?_ | refine blk_alloc ?_ _)); exact BK308.out⟩, ⟨by repeat (first | (with_reducible first | exact HB.out | apply below_alloc | apply pw_below_drewN | apply below_drew1 | refine below_set ?_ GE308.out) | exact HB.out)⟩⟩
      · rw [if_neg c3] at H
        have c3b0 : decide (x4_1 < 65) = false := decide_eq_false c3
        clear c3
        obtain rfl := Option.some.inj H
        go_wp2
        go_ret
        exact ⟨by first | rfl | (simp [errW_none, errW_some] <;> rfl) | (simp [*, errW_none, errW_some] <;> rfl), by repeat (first | (with_reducible first | exact HB.out | apply below_alloc | apply pw_below_drewN | apply below_drew1 | refine below_set ?_ GE308.out) | exact HB.out)⟩

/-! ### paternosterref05_Most: function 43 -/
def paternosterref05_Most.l0 : Nat → Int → Int → List (S69) → Int → Int → List Int → Int → Int → Int → Int → Int → Int → Int → Int → Int → Option (Int)
  | 0, _, _, _, _, _, _, _, _, _, _, _, _, _, _, _ => none
  | k + 1, x3, x4, x312000, x312001, x312002, x312003, x312004, x312005, x312006, x312007, x312008, x312009, x312010, x312011, x312012 => if x4 < (x312000.length : Int) then (if 0 ≤ x4 then ((paternosterref04_Most.f k ((rd_T69 x312000 x4).f1.f0) ((rd_T69 x312000 x4).f1.f1) ((rd_T69 x312000 x4).f1.f2) ((rd_T69 x312000 x4).f1.f3) ((rd_T69 x312000 x4).f1.f4) ((rd_T69 x312000 x4).f1.f5)).bind fun t313 => (if t313 > x3 then (paternosterref05_Most.l0 k t313 (wrap64 (x4 + 1)) x312000 x312001 x312002 x312003 x312004 x312005 x312006 x312007 x312008 x312009 x312010 x312011 x312012) else (paternosterref05_Most.l0 k x3 (wrap64 (x4 + 1)) x312000 x312001 x312002 x312003 x312004 x312005 x312006 x312007 x312008 x312009 x312010 x312011 x312012))) else (none)) else (some x3)
def paternosterref05_Most.f (k : Nat) (l0_0 : List (S69)) (a0_1 : Int) (a0_2 : Int) (l0_3 : List Int) (a0_4 : Int) (a0_5 : Int) (a0_6 : Int) (a0_7 : Int) (a0_8 : Int) (a0_9 : Int) (a0_10 : Int) (a0_11 : Int) (a0_12 : Int) : Option (Int) := paternosterref05_Most.l0 k 0 0 l0_0 a0_1 a0_2 l0_3 a0_4 a0_5 a0_6 a0_7 a0_8 a0_9 a0_10 a0_11 a0_12
theorem paternosterref05_Most.mono_l : ∀ k, (∀ y0 y1 y2 y3 y4 y5 y6 y7 y8 y9 y10 y11 y12 y13 y14, LeO (paternosterref05_Most.l0 k y0 y1 y2 y3 y4 y5 y6 y7 y8 y9 y10 y11 y12 y13 y14) (paternosterref05_Most.l0 (k + 1) y0 y1 y2 y3 y4 y5 y6 y7 y8 y9 y10 y11 y12 y13 y14))
  | 0 => fun _ _ _ _ _ _ _ _ _ _ _ _ _ _ _ r h => by simp [paternosterref05_Most.l0] at h
  | k + 1 => by
    have ih0 := paternosterref05_Most.mono_l k
    · intro y0 y1 y2 y3 y4 y5 y6 y7 y8 y9 y10 y11 y12 y13 y14
      unfold paternosterref05_Most.l0
      repeat' first
      | (with_reducible exact ih0 _ _ _ _ _ _ _ _ _ _ _ _ _ _ _)
      | (with_reducible exact paternosterref04_Most.mono _ _ _ _ _ _ _)
      | (with_reducible exact LeO.refl _)
      | (with_reducible exact LeO.none _)
      | (with_reducible refine LeO.ite ?_ ?_)
      | (with_reducible refine LeO.bind ?_ (fun _ => ?_))
      | exact ih0 _ _ _ _ _ _ _ _ _ _ _ _ _ _ _
      | exact paternosterref04_Most.mono _ _ _ _ _ _ _
      | exact LeO.none _
      | refine LeO.ite ?_ ?_
      | refine LeO.bind ?_ (fun _ => ?_)
theorem paternosterref05_Most.mono : ∀ a0 a1 a2 a3 a4 a5 a6 a7 a8 a9 a10 a11 a12 k, LeO (paternosterref05_Most.f k a0 a1 a2 a3 a4 a5 a6 a7 a8 a9 a10 a11 a12) (paternosterref05_Most.f (k + 1) a0 a1 a2 a3 a4 a5 a6 a7 a8 a9 a10 a11 a12) := by
  intro a0 a1 a2 a3 a4 a5 a6 a7 a8 a9 a10 a11 a12 k
  have ih0 := paternosterref05_Most.mono_l k
  unfold paternosterref05_Most.f
  repeat' first
      | (with_reducible exact ih0 _ _ _ _ _ _ _ _ _ _ _ _ _ _ _)
      | (with_reducible exact paternosterref04_Most.mono _ _ _ _ _ _ _)
      | (with_reducible exact LeO.refl _)
      | (with_reducible exact LeO.none _)
      | (with_reducible refine LeO.ite ?_ ?_)
      | (with_reducible refine LeO.bind ?_ (fun _ => ?_))
      | exact ih0 _ _ _ _ _ _ _ _ _ _ _ _ _ _ _
      | exact paternosterref04_Most.mono _ _ _ _ _ _ _
      | exact LeO.none _
      | refine LeO.ite ?_ ?_
      | refine LeO.bind ?_ (fun _ => ?_)
set_option maxHeartbeats 8000000 in
set_option maxRecDepth 100000 in
theorem paternosterref05_Most.calls (k : Nat) (A0_0 : Option Addr) (c0_0 : Nat) (l0_0 : List (S69)) (a0_1 : Int) (a0_2 : Int) (A0_3 : Option Addr) (c0_3 : Nat) (l0_3 : List Int) (a0_4 : Int) (a0_5 : Int) (a0_6 : Int) (a0_7 : Int) (a0_8 : Int) (a0_9 : Int) (a0_10 : Int) (a0_11 : Int) (a0_12 : Int) (r : Int) (w : World) (hr0_0 : Kd.C k69 w A0_0 l0_0.length l0_0) (hc0_0 : l0_0.length ≤ c0_0) (hr0_3 : Kd.C (Kd.int .i64) w A0_3 l0_3.length l0_3) (hc0_3 : l0_3.length ≤ c0_3) (h : paternosterref05_Most.f k l0_0 a0_1 a0_2 l0_3 a0_4 a0_5 a0_6 a0_7 a0_8 a0_9 a0_10 a0_11 a0_12 = some r) :
    Calls Try.prog 43 #[.agg #[.slice A0_0 l0_0.length c0_0, .int .i64 a0_1, .int .i64 a0_2, .slice A0_3 l0_3.length c0_3, .int .i64 a0_4, .int .i64 a0_5, .int .i64 a0_6, .int .i64 a0_7, .int .i64 a0_8, .int .i64 a0_9, .int .i64 a0_10, .int .i64 a0_11, .int .i64 a0_12]] w fun e w' => e = .returned (.int .i64 r) ∧ Below w.heap.size w w' := by
  have hu31 := Try.underlying31
  have hu45 := Try.underlying45
  have HR0_0 := Aside0.mk hr0_0
  have HC0_0 := Aside0.mk hc0_0
  clear hr0_0 hc0_0
  have HR0_3 := Aside0.mk hr0_3
  have HC0_3 := Aside0.mk hc0_3
  clear hr0_3 hc0_3
  have HB := Aside0.mk (Below.refl w.heap.size w)
  have H : (paternosterref05_Most.l0 k 0 0 l0_0 a0_1 a0_2 l0_3 a0_4 a0_5 a0_6 a0_7 a0_8 a0_9 a0_10 a0_11 a0_12) = some r := h
  clear h
  have H' := Aside0.mk H
  clear H
  go_enter Try.func43, Try.ntmps43
  go_wp2_with (first | ((with_reducible refine gate_dst (N := 1) rfl ?_); refine box_event ?hg (N := 1) ?hd (cs := #[.slice A0_0 l0_0.length c0_0, .int .i64 a0_1, .int .i64 a0_2, .slice A0_3 l0_3.length c0_3, .int .i64 a0_4, .int .i64 a0_5, .int .i64 a0_6, .int .i64 a0_7, .int .i64 a0_8, .int .i64 a0_9, .int .i64 a0_10, .int .i64 a0_11, .int .i64 a0_12]) (t := 31) ?hr ?_; (case hd => rfl); (case hg => rfl); (case hr => first | (go_simp; done) | (go_simp; rfl)); intro gb311 hg w2 hbox hb; have n0_ := Aside0.mk (below_step (by repeat (first | (with_reducible first | exact HB.out | apply below_alloc | apply pw_below_drewN | apply below_drew1) | exact HB.out)) hb); have n1_ := Aside0.mk (hbox); have n2_ := Aside0.mk ((by rw [hg]; exact (below_size (by repeat (first | (with_reducible first | exact HB.out | apply below_alloc | apply pw_below_drewN | apply below_drew1) | exact HB.out))) : w.heap.size ≤ gb311)); have n3_ := Aside0.mk ((by rw [hg]; exact (below_size (by repeat (first | (with_reducible first | exact HB.out | apply below_alloc | apply pw_below_drewN | apply below_drew1) | exact HB.out))) : w.heap.size ≤ gb311)); clear HB; have HB := n0_; have BK311 := n1_; have GW311 := n2_; have GE311 := n3_; clear n0_ n1_ n2_ n3_; clear hb hbox hg))
  go_loopg [3, 4] k (fun kq v3 v4 w' => ∃ (x3_1 : Int) (x4_1 : Int), v3 = .int .i64 x3_1 ∧ v4 = .int .i64 x4_1 ∧ Aside0 (paternosterref05_Most.l0 kq x3_1 x4_1 l0_0 a0_1 a0_2 l0_3 a0_4 a0_5 a0_6 a0_7 a0_8 a0_9 a0_10 a0_11 a0_12 = some r) ∧ Aside0 (kq ≤ k) ∧ Aside0 (w'.heap[gb311]? = some (.cells #[(.slice A0_0 l0_0.length c0_0), .int .i64 a0_1, .int .i64 a0_2, (.slice A0_3 l0_3.length c0_3), .int .i64 a0_4, .int .i64 a0_5, .int .i64 a0_6, .int .i64 a0_7, .int .i64 a0_8, .int .i64 a0_9, .int .i64 a0_10, .int .i64 a0_11, .int .i64 a0_12] 31 (0, 0))) ∧ Aside0 (Below w.heap.size w w'))
  case atStart => exact ⟨(0), (0), (by first | rfl | (simp; done) | (simp [*]; done)), (by first | rfl | (simp; done) | (simp [*]; done)), H', ⟨Nat.le_refl _⟩, ⟨by (with_reducible repeat (first | refine blk_drewN ?_ _ | refine blk_drew ?_ | refine blk_alloc ?_ _)); exact BK311.out⟩, ⟨by repeat (first | (with_reducible first | exact HB.out | apply below_alloc | apply pw_below_drewN | apply below_drew1 | refine below_set ?_ GE311.out) | exact HB.out)⟩⟩
  case round =>
    clear H'
    try clear p2
    obtain ⟨x3_1, x4_1, rfl, rfl, HA, HK1, BK311, HB⟩ := hrel
    cases gk with
    | zero => exact absurd HA.out (by simp [paternosterref05_Most.l0])
    | succ k1 =>
      have H := HA.out
      clear HA
      simp only [paternosterref05_Most.l0] at H
      by_cases c3 : x4_1 < (l0_0.length : Int)
      · rw [if_pos c3] at H
        have c3b0 : decide (x4_1 < (l0_0.length : Int)) = true := decide_eq_true c3
        clear c3
        by_cases c4 : 0 ≤ x4_1
        · rw [if_pos c4] at H
          have c4b0 : decide (0 ≤ x4_1) = true := decide_eq_true c4
          clear c4
          replace H := Option.bind_eq_some_iff.mp H
          obtain ⟨t313, A50, H⟩ := H
          replace H : (if t313 > x3_1 then (paternosterref05_Most.l0 k1 t313 (wrap64 (x4_1 + 1)) l0_0 a0_1 a0_2 l0_3 a0_4 a0_5 a0_6 a0_7 a0_8 a0_9 a0_10 a0_11 a0_12) else (paternosterref05_Most.l0 k1 x3_1 (wrap64 (x4_1 + 1)) l0_0 a0_1 a0_2 l0_3 a0_4 a0_5 a0_6 a0_7 a0_8 a0_9 a0_10 a0_11 a0_12)) = some r := H
          have A5 := Aside0.mk A50
          clear A50
          by_cases c6 : t313 > x3_1
          · rw [if_pos c6] at H
            have c6b0 : decide (x3_1 < t313) = true := decide_eq_true c6
            clear c6
            have H' := Aside0.mk H
            clear H
            have hcz7_0 : wr.cell? ⟨gb311, 0, none⟩ = some (.slice A0_0 l0_0.length c0_0) := (blk_cell BK311.out 0).trans rfl
            have hcz7_1 : wr.cell? ⟨gb311, 1, none⟩ = some (.int .i64 a0_1) := (blk_cell BK311.out 1).trans rfl
            have hcz7_2 : wr.cell? ⟨gb311, 2, none⟩ = some (.int .i64 a0_2) := (blk_cell BK311.out 2).trans rfl
            have hcz7_3 : wr.cell? ⟨gb311, 3, none⟩ = some (.slice A0_3 l0_3.length c0_3) := (blk_cell BK311.out 3).trans rfl
            have hcz7_4 : wr.cell? ⟨gb311, 4, none⟩ = some (.int .i64 a0_4) := (blk_cell BK311.out 4).trans rfl
            have hcz7_5 : wr.cell? ⟨gb311, 5, none⟩ = some (.int .i64 a0_5) := (blk_cell BK311.out 5).trans rfl
            have hcz7_6 : wr.cell? ⟨gb311, 6, none⟩ = some (.int .i64 a0_6) := (blk_cell BK311.out 6).trans rfl
            have hcz7_7 : wr.cell? ⟨gb311, 7, none⟩ = some (.int .i64 a0_7) := (blk_cell BK311.out 7).trans rfl
            have hcz7_8 : wr.cell? ⟨gb311, 8, none⟩ = some (.int .i64 a0_8) := (blk_cell BK311.out 8).trans rfl
            have hcz7_9 : wr.cell? ⟨gb311, 9, none⟩ = some (.int .i64 a0_9) := (blk_cell BK311.out 9).trans rfl
            have hcz7_10 : wr.cell? ⟨gb311, 10, none⟩ = some (.int .i64 a0_10) := (blk_cell BK311.out 10).trans rfl
            have hcz7_11 : wr.cell? ⟨gb311, 11, none⟩ = some (.int .i64 a0_11) := (blk_cell BK311.out 11).trans rfl
            have hcz7_12 : wr.cell? ⟨gb311, 12, none⟩ = some (.int .i64 a0_12) := (blk_cell BK311.out 12).trans rfl
            have hfz7_0 := blk_frozen BK311.out 0
            have hfz7_1 := blk_frozen BK311.out 1
            have hfz7_2 := blk_frozen BK311.out 2
            have hfz7_3 := blk_frozen BK311.out 3
            have hfz7_4 := blk_frozen BK311.out 4
            have hfz7_5 := blk_frozen BK311.out 5
            have hfz7_6 := blk_frozen BK311.out 6
            have hfz7_7 := blk_frozen BK311.out 7
            have hfz7_8 := blk_frozen BK311.out 8
            have hfz7_9 := blk_frozen BK311.out 9
            have hfz7_10 := blk_frozen BK311.out 10
            have hfz7_11 := blk_frozen BK311.out 11
            have hfz7_12 := blk_frozen BK311.out 12
            have p312 : 0 ≤ (x4_1 : Int) := of_decide_eq_true (by first | (with_reducible assumption) | assumption)
            have q312 : x4_1 < (l0_0.length : Int) := of_decide_eq_true (by first | (with_reducible assumption) | assumption)
            obtain ⟨ad312, e312, hx312_0, hx312_1, hx312_2, hx312_3, hx312_4, hx312_5, hx312_6⟩ := at_T69 HR0_0.out x4_1 p312 q312
            cases e312
            replace hx312_0 := (HB.out.cell (World.block_lt_of_cell? w _ hx312_0)).trans hx312_0
            replace hx312_1 := (HB.out.cell (World.block_lt_of_cell? w _ hx312_1)).trans hx312_1
            replace hx312_2 := (HB.out.cell (World.block_lt_of_cell? w _ hx312_2)).trans hx312_2
            replace hx312_3 := (HB.out.cell (World.block_lt_of_cell? w _ hx312_3)).trans hx312_3
            replace hx312_4 := (HB.out.cell (World.block_lt_of_cell? w _ hx312_4)).trans hx312_4
            replace hx312_5 := (HB.out.cell (World.block_lt_of_cell? w _ hx312_5)).trans hx312_5
            replace hx312_6 := (HB.out.cell (World.block_lt_of_cell? w _ hx312_6)).trans hx312_6
            replace p312 := eq_true p312
            replace q312 := eq_true q312
            go_wp2_with (first | ((with_reducible refine gate_callee (f := 39) rfl ?_); refine goesL_ (some 19) rfl rfl Try.func39 (by kernel_rfl) rfl #[.agg #[.int .i64 ((rd_T69 l0_0 x4_1).f1.f0), .int .i64 ((rd_T69 l0_0 x4_1).f1.f1), .int .i64 ((rd_T69 l0_0 x4_1).f1.f2), .int .i64 ((rd_T69 l0_0 x4_1).f1.f3), .int .i64 ((rd_T69 l0_0 x4_1).f1.f4), .int .i64 ((rd_T69 l0_0 x4_1).f1.f5)]] rfl (by (try simp only [List.map_toArray, List.map_cons, List.map_nil]); first | done | rfl | (simp only [List.length_drop, List.length_take]; rfl)) ?_; (with_reducible refine (paternosterref04_Most.calls k1 ((rd_T69 l0_0 x4_1).f1.f0) ((rd_T69 l0_0 x4_1).f1.f1) ((rd_T69 l0_0 x4_1).f1.f2) ((rd_T69 l0_0 x4_1).f1.f3) ((rd_T69 l0_0 x4_1).f1.f4) ((rd_T69 l0_0 x4_1).f1.f5) t313 _ A5.out).mono ?_); rintro e w8 ⟨rfl, hb⟩; refine ⟨_, rfl, ?_⟩; have n0_ := Aside0.mk (blk_below (g := gb311) (o := .cells #[.slice (some ad312) l0_0.length c0_0, .int .i64 a0_1, .int .i64 a0_2, .slice A0_3 l0_3.length c0_3, .int .i64 a0_4, .int .i64 a0_5, .int .i64 a0_6, .int .i64 a0_7, .int .i64 a0_8, .int .i64 a0_9, .int .i64 a0_10, .int .i64 a0_11, .int .i64 a0_12] 31 (0, 0)) (by (with_reducible repeat (first | refine blk_drewN ?_ _ | refine blk_drew ?_ | refine blk_alloc ?_ _)); exact BK311.out) hb); have n1_ := Aside0.mk (below_step (by repeat (first | (with_reducible first | exact HB.out | apply below_alloc | apply pw_below_drewN | apply below_drew1 | refine below_set ?_ GE311.out) | exact HB.out)) hb); clear BK311; clear HB; have BK311 := n0_; have HB := n1_; clear n0_ n1_; (try clear hb); (try clear hb2); (try clear hk); (try clear hi)))
            go_roundg k1
            case measure => have := HK1.out; omega
            case rel => exact ⟨(t313), (wrap64 (x4_1 + 1)), (by first | rfl | (simp; done) | (simp [*]; done)), (by first | rfl | (simp; done) | (simp [*]; done)), H', ⟨by have := HK1.out; omega⟩, ⟨by (with_reducible repeat (first | refine blk_drewN ?_ _ | refine blk_drew ?_ | refine blk_alloc ?_ _)); exact BK311.out⟩, ⟨by repeat (first | (with_reducible first | exact HB.out | apply below_alloc | apply pw_below_drewN | apply below_drew1 | refine below_set ?_ GE311.out) | exact HB.out)⟩⟩
          · rw [if_neg c6] at H
            have c6b0 : decide (x3_1 < t313) = false := decide_eq_false c6
            clear c6
            have H' := Aside0.mk H
            clear H
            have hcz9_0 : wr.cell? ⟨gb311, 0, none⟩ = some (.slice A0_0 l0_0.length c0_0) := (blk_cell BK311.out 0).trans rfl
            have hcz9_1 : wr.cell? ⟨gb311, 1, none⟩ = some (.int .i64 a0_1) := (blk_cell BK311.out 1).trans rfl
            have hcz9_2 : wr.cell? ⟨gb311, 2, none⟩ = some (.int .i64 a0_2) := (blk_cell BK311.out 2).trans rfl
            have hcz9_3 : wr.cell? ⟨gb311, 3, none⟩ = some (.slice A0_3 l0_3.length c0_3) := (blk_cell BK311.out 3).trans rfl
            have hcz9_4 : wr.cell? ⟨gb311, 4, none⟩ = some (.int .i64 a0_4) := (blk_cell BK311.out 4).trans rfl
            have hcz9_5 : wr.cell? ⟨gb311, 5, none⟩ = some (.int .i64 a0_5) := (blk_cell BK311.out 5).trans rfl
            have hcz9_6 : wr.cell? ⟨gb311, 6, none⟩ = some (.int .i64 a0_6) := (blk_cell BK311.out 6).trans rfl
            have hcz9_7 : wr.cell? ⟨gb311, 7, none⟩ = some (.int .i64 a0_7) := (blk_cell BK311.out 7).trans rfl
            have hcz9_8 : wr.cell? ⟨gb311, 8, none⟩ = some (.int .i64 a0_8) := (blk_cell BK311.out 8).trans rfl
            have hcz9_9 : wr.cell? ⟨gb311, 9, none⟩ = some (.int .i64 a0_9) := (blk_cell BK311.out 9).trans rfl
            have hcz9_10 : wr.cell? ⟨gb311, 10, none⟩ = some (.int .i64 a0_10) := (blk_cell BK311.out 10).trans rfl
            have hcz9_11 : wr.cell? ⟨gb311, 11, none⟩ = some (.int .i64 a0_11) := (blk_cell BK311.out 11).trans rfl
            have hcz9_12 : wr.cell? ⟨gb311, 12, none⟩ = some (.int .i64 a0_12) := (blk_cell BK311.out 12).trans rfl
            have hfz9_0 := blk_frozen BK311.out 0
            have hfz9_1 := blk_frozen BK311.out 1
            have hfz9_2 := blk_frozen BK311.out 2
            have hfz9_3 := blk_frozen BK311.out 3
            have hfz9_4 := blk_frozen BK311.out 4
            have hfz9_5 := blk_frozen BK311.out 5
            have hfz9_6 := blk_frozen BK311.out 6
            have hfz9_7 := blk_frozen BK311.out 7
            have hfz9_8 := blk_frozen BK311.out 8
            have hfz9_9 := blk_frozen BK311.out 9
            have hfz9_10 := blk_frozen BK311.out 10
            have hfz9_11 := blk_frozen BK311.out 11
            have hfz9_12 := blk_frozen BK311.out 12
            have p312 : 0 ≤ (x4_1 : Int) := of_decide_eq_true (by first | (with_reducible assumption) | assumption)
            have q312 : x4_1 < (l0_0.length : Int) := of_decide_eq_true (by first | (with_reducible assumption) | assumption)
            obtain ⟨ad312, e312, hx312_0, hx312_1, hx312_2, hx312_3, hx312_4, hx312_5, hx312_6⟩ := at_T69 HR0_0.out x4_1 p312 q312
            cases e312
            replace hx312_0 := (HB.out.cell (World.block_lt_of_cell? w _ hx312_0)).trans hx312_0
            replace hx312_1 := (HB.out.cell (World.block_lt_of_cell? w _ hx312_1)).trans hx312_1
            replace hx312_2 := (HB.out.cell (World.block_lt_of_cell? w _ hx312_2)).trans hx312_2
            replace hx312_3 := (HB.out.cell (World.block_lt_of_cell? w _ hx312_3)).trans hx312_3
            replace hx312_4 := (HB.out.cell (World.block_lt_of_cell? w _ hx312_4)).trans hx312_4
            replace hx312_5 := (HB.out.cell (World.block_lt_of_cell? w _ hx312_5)).trans hx312_5
            replace hx312_6 := (HB.out.cell (World.block_lt_of_cell? w _ hx312_6)).trans hx312_6
            replace p312 := eq_true p312
            replace q312 := eq_true q312
            go_wp2_with (first | ((with_reducible refine gate_callee (f := 39) rfl ?_); refine goesL_ (some 19) rfl rfl Try.func39 (by kernel_rfl) rfl #[.agg #[.int .i64 ((rd_T69 l0_0 x4_1).f1.f0), .int .i64 ((rd_T69 l0_0 x4_1).f1.f1), .int .i64 ((rd_T69 l0_0 x4_1).f1.f2), .int .i64 ((rd_T69 l0_0 x4_1).f1.f3), .int .i64 ((rd_T69 l0_0 x4_1).f1.f4), .int .i64 ((rd_T69 l0_0 x4_1).f1.f5)]] rfl (by (try simp only [List.map_toArray, List.map_cons, List.map_nil]); first | done | rfl | (simp only [List.length_drop, List.length_take]; rfl)) ?_; (with_reducible refine (paternosterref04_Most.calls k1 ((rd_T69 l0_0 x4_1).f1.f0) ((rd_T69 l0_0 x4_1).f1.f1) ((rd_T69 l0_0 x4_1).f1.f2) ((rd_T69 l0_0 x4_1).f1.f3) ((rd_T69 l0_0 x4_1).f1.f4) ((rd_T69 l0_0 x4_1).f1.f5) t313 _ A5.out).mono ?_); rintro e w10 ⟨rfl, hb⟩; refine ⟨_, rfl, ?_⟩; have n0_ := Aside0.mk (blk_below (g := gb311) (o := .cells #[.slice (some ad312) l0_0.length c0_0, .int .i64 a0_1, .int .i64 a0_2, .slice A0_3 l0_3.length c0_3, .int .i64 a0_4, .int .i64 a0_5, .int .i64 a0_6, .int .i64 a0_7, .int .i64 a0_8, .int .i64 a0_9, .int .i64 a0_10, .int .i64 a0_11, .int .i64 a0_12] 31 (0, 0)) (by (with_reducible repeat (first | refine blk_drewN ?_ _ | refine blk_drew ?_ | refine blk_alloc ?_ _)); exact BK311.out) hb); have n1_ := Aside0.mk (below_step (by repeat (first | (with_reducible first | exact HB.out | apply below_alloc | apply pw_below_drewN | apply below_drew1 | refine below_set ?_ GE311.out) | exact HB.out)) hb); clear BK311; clear HB; have BK311 := n0_; have HB := n1_; clear n0_ n1_; (try clear hb); (try clear hb2); (try clear hk); (try clear hi)))
            go_roundg k1
            case measure => have := HK1.out; omega
            case rel => exact ⟨(x3_1), (wrap64 (x4_1 + 1)), (by first | rfl | (simp; done) | (simp [*]; done)), (by first | rfl | (simp; done) | (simp [*]; done)), H', ⟨by have := HK1.out; omega⟩, ⟨by (with_reducible repeat (first | refine blk_drewN ?_ _ | refine blk_drew ?_ | refine blk_alloc ?_ _)); exact BK311.out⟩, ⟨by repeat (first | (with_reducible first | exact HB.out | apply below_alloc | apply pw_below_drewN | apply below_drew1 | refine below_set ?_ GE311.out) | exact HB.out)⟩⟩
        · rw [if_neg c4] at H
          exact absurd H (by simp)
      · rw [if_neg c3] at H
        have c3b0 : decide (x4_1 < (l0_0.length : Int)) = false := decide_eq_false c3
        clear c3
        obtain rfl := Option.some.inj H
        have hcz11_0 : wr.cell? ⟨gb311, 0, none⟩ = some (.slice A0_0 l0_0.length c0_0) := (blk_cell BK311.out 0).trans rfl
        have hcz11_1 : wr.cell? ⟨gb311, 1, none⟩ = some (.int .i64 a0_1) := (blk_cell BK311.out 1).trans rfl
        have hcz11_2 : wr.cell? ⟨gb311, 2, none⟩ = some (.int .i64 a0_2) := (blk_cell BK311.out 2).trans rfl
        have hcz11_3 : wr.cell? ⟨gb311, 3, none⟩ = some (.slice A0_3 l0_3.length c0_3) := (blk_cell BK311.out 3).trans rfl
        have hcz11_4 : wr.cell? ⟨gb311, 4, none⟩ = some (.int .i64 a0_4) := (blk_cell BK311.out 4).trans rfl
        have hcz11_5 : wr.cell? ⟨gb311, 5, none⟩ = some (.int .i64 a0_5) := (blk_cell BK311.out 5).trans rfl
        have hcz11_6 : wr.cell? ⟨gb311, 6, none⟩ = some (.int .i64 a0_6) := (blk_cell BK311.out 6).trans rfl
        have hcz11_7 : wr.cell? ⟨gb311, 7, none⟩ = some (.int .i64 a0_7) := (blk_cell BK311.out 7).trans rfl
        have hcz11_8 : wr.cell? ⟨gb311, 8, none⟩ = some (.int .i64 a0_8) := (blk_cell BK311.out 8).trans rfl
        have hcz11_9 : wr.cell? ⟨gb311, 9, none⟩ = some (.int .i64 a0_9) := (blk_cell BK311.out 9).trans rfl
        have hcz11_10 : wr.cell? ⟨gb311, 10, none⟩ = some (.int .i64 a0_10) := (blk_cell BK311.out 10).trans rfl
        have hcz11_11 : wr.cell? ⟨gb311, 11, none⟩ = some (.int .i64 a0_11) := (blk_cell BK311.out 11).trans rfl
        have hcz11_12 : wr.cell? ⟨gb311, 12, none⟩ = some (.int .i64 a0_12) := (blk_cell BK311.out 12).trans rfl
        have hfz11_0 := blk_frozen BK311.out 0
        have hfz11_1 := blk_frozen BK311.out 1
        have hfz11_2 := blk_frozen BK311.out 2
        have hfz11_3 := blk_frozen BK311.out 3
        have hfz11_4 := blk_frozen BK311.out 4
        have hfz11_5 := blk_frozen BK311.out 5
        have hfz11_6 := blk_frozen BK311.out 6
        have hfz11_7 := blk_frozen BK311.out 7
        have hfz11_8 := blk_frozen BK311.out 8
        have hfz11_9 := blk_frozen BK311.out 9
        have hfz11_10 := blk_frozen BK311.out 10
        have hfz11_11 := blk_frozen BK311.out 11
        have hfz11_12 := blk_frozen BK311.out 12
        go_wp2
        go_ret
        exact ⟨by first | rfl | (simp [errW_none, errW_some] <;> rfl) | (simp [*, errW_none, errW_some] <;> rfl), by repeat (first | (with_reducible first | exact HB.out | apply below_alloc | apply pw_below_drewN | apply below_drew1 | refine below_set ?_ GE311.out) | exact HB.out)⟩

end Go.Proofs.Ytomaojmccchibaa.X
