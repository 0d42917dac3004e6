-- Written by a program of this session (wip/xprint/xprint.py runs the kit's print with hand-proved externs).
import Derived.Test.YtomaojmccchibaaXx0
import Derived.Test.YtomaojmccchibaaXx24
namespace Go.Proofs.Ytomaojmccchibaa.X
open Go.RowKit Go.Proofs.YtomaojmccchibaaW.PrintWords Go.Proofs.YtomaojmccchibaaW.PrintLast Go.Proofs.YtomaojmccchibaaW.PrintMore
attribute [local go_sem] max2_int min2_int max_two min_two max_three min_three max_four min_four   -- for this text's walks alone
set_option linter.unusedVariables false
set_option linter.unusedSimpArgs false

/-! ### paternosterref04_Most: function 39 -/
def paternosterref04_Most.l0 : Nat → Int → Int → Int → Int → Int → Int → Int → Int → Option (Int)
  | 0, _, _, _, _, _, _, _, _ => none
  | k + 1, x3, x4, x323000, x323001, x323002, x323003, x323004, x323005 => if x4 < 65 then ((paternosterref04_Peak.f k x323000 x323001 x323002 x323003 x323004 x323005 x4 1).bind fun t323 => ((paternosterref04_Peak.f k x323000 x323001 x323002 x323003 x323004 x323005 x4 (-1)).bind fun t324 => (if t323 > x3 then (if t324 > t323 then (paternosterref04_Most.l0 k t324 (wrap64 (x4 + 1)) x323000 x323001 x323002 x323003 x323004 x323005) else (paternosterref04_Most.l0 k t323 (wrap64 (x4 + 1)) x323000 x323001 x323002 x323003 x323004 x323005)) else (if t324 > x3 then (paternosterref04_Most.l0 k t324 (wrap64 (x4 + 1)) x323000 x323001 x323002 x323003 x323004 x323005) else (paternosterref04_Most.l0 k x3 (wrap64 (x4 + 1)) x323000 x323001 x323002 x323003 x323004 x323005))))) else (some x3)
def paternosterref04_Most.f (k : Nat) (a0_0 : Int) (a0_1 : Int) (a0_2 : Int) (a0_3 : Int) (a0_4 : Int) (a0_5 : Int) : Option (Int) := paternosterref04_Most.l0 k 0 0 a0_0 a0_1 a0_2 a0_3 a0_4 a0_5
theorem paternosterref04_Most.mono_l : ∀ k, (∀ y0 y1 y2 y3 y4 y5 y6 y7, LeO (paternosterref04_Most.l0 k y0 y1 y2 y3 y4 y5 y6 y7) (paternosterref04_Most.l0 (k + 1) y0 y1 y2 y3 y4 y5 y6 y7))
  | 0 => fun _ _ _ _ _ _ _ _ r h => by simp [paternosterref04_Most.l0] at h
  | k + 1 => by
    have ih0 := paternosterref04_Most.mono_l k
    · intro y0 y1 y2 y3 y4 y5 y6 y7
      unfold paternosterref04_Most.l0
      repeat' first
      | (with_reducible exact ih0 _ _ _ _ _ _ _ _)
      | (with_reducible exact paternosterref04_Peak.mono _ _ _ _ _ _ _ _ _)
      | (with_reducible exact LeO.refl _)
      | (with_reducible exact LeO.none _)
      | (with_reducible refine LeO.ite ?_ ?_)
      | (with_reducible refine LeO.bind ?_ (fun _ => ?_))
      | exact ih0 _ _ _ _ _ _ _ _
      | exact paternosterref04_Peak.mono _ _ _ _ _ _ _ _ _
      | exact LeO.none _
      | refine LeO.ite ?_ ?_
      | refine LeO.bind ?_ (fun _ => ?_)
theorem paternosterref04_Most.mono : ∀ a0 a1 a2 a3 a4 a5 k, LeO (paternosterref04_Most.f k a0 a1 a2 a3 a4 a5) (paternosterref04_Most.f (k + 1) a0 a1 a2 a3 a4 a5) := by
  intro a0 a1 a2 a3 a4 a5 k
  have ih0 := paternosterref04_Most.mono_l k
  unfold paternosterref04_Most.f
  repeat' first
      | (with_reducible exact ih0 _ _ _ _ _ _ _ _)
      | (with_reducible exact paternosterref04_Peak.mono _ _ _ _ _ _ _ _ _)
      | (with_reducible exact LeO.refl _)
      | (with_reducible exact LeO.none _)
      | (with_reducible refine LeO.ite ?_ ?_)
      | (with_reducible refine LeO.bind ?_ (fun _ => ?_))
      | exact ih0 _ _ _ _ _ _ _ _
      | exact paternosterref04_Peak.mono _ _ _ _ _ _ _ _ _
      | exact LeO.none _
      | refine LeO.ite ?_ ?_
      | refine LeO.bind ?_ (fun _ => ?_)
set_option maxHeartbeats 8000000 in
set_option maxRecDepth 100000 in
theorem paternosterref04_Most.calls (k : Nat) (a0_0 : Int) (a0_1 : Int) (a0_2 : Int) (a0_3 : Int) (a0_4 : Int) (a0_5 : Int) (r : Int) (w : World) (h : paternosterref04_Most.f k a0_0 a0_1 a0_2 a0_3 a0_4 a0_5 = some r) :
    Calls Try.prog 39 #[.agg #[.int .i64 a0_0, .int .i64 a0_1, .int .i64 a0_2, .int .i64 a0_3, .int .i64 a0_4, .int .i64 a0_5]] w fun e w' => e = .returned (.int .i64 r) ∧ Below w.heap.size w w' := by
  have hu45 := Try.underlying45
  have HB := Aside0.mk (Below.refl w.heap.size w)
  have H : (paternosterref04_Most.l0 k 0 0 a0_0 a0_1 a0_2 a0_3 a0_4 a0_5) = some r := h
  clear h
  have H' := Aside0.mk H
  clear H
  go_enter Try.func39, Try.ntmps39
  go_wp2_with (first | ((with_reducible refine gate_dst (N := 1) rfl ?_); refine box_event ?hg (N := 1) ?hd (cs := #[.int .i64 a0_0, .int .i64 a0_1, .int .i64 a0_2, .int .i64 a0_3, .int .i64 a0_4, .int .i64 a0_5]) (t := 45) ?hr ?_; (case hd => rfl); (case hg => rfl); (case hr => first | (go_simp; done) | (go_simp; rfl)); intro gb322 hg w2 hbox hb; have n0_ := Aside0.mk (below_step (by repeat (first | (with_reducible first | exact HB.out | apply below_alloc | apply pw_below_drewN | apply below_drew1) | exact HB.out)) hb); have n1_ := Aside0.mk (hbox); have n2_ := Aside0.mk ((by rw [hg]; exact (below_size (by repeat (first | (with_reducible first | exact HB.out | apply below_alloc | apply pw_below_drewN | apply below_drew1) | exact HB.out))) : w.heap.size ≤ gb322)); have n3_ := Aside0.mk ((by rw [hg]; exact (below_size (by repeat (first | (with_reducible first | exact HB.out | apply below_alloc | apply pw_below_drewN | apply below_drew1) | exact HB.out))) : w.heap.size ≤ gb322)); clear HB; have HB := n0_; have BK322 := n1_; have GW322 := n2_; have GE322 := n3_; clear n0_ n1_ n2_ n3_; clear hb hbox hg))
  go_loopg [3, 4] k (fun kq v3 v4 w' => ∃ (x3_1 : Int) (x4_1 : Int), v3 = .int .i64 x3_1 ∧ v4 = .int .i64 x4_1 ∧ Aside0 (paternosterref04_Most.l0 kq x3_1 x4_1 a0_0 a0_1 a0_2 a0_3 a0_4 a0_5 = some r) ∧ Aside0 (kq ≤ k) ∧ Aside0 (w'.heap[gb322]? = some (.cells #[.int .i64 a0_0, .int .i64 a0_1, .int .i64 a0_2, .int .i64 a0_3, .int .i64 a0_4, .int .i64 a0_5] 45 (0, 0))) ∧ Aside0 (Below w.heap.size w w'))
  case atStart => exact ⟨(0), (0), (by first | rfl | (simp; done) | (simp [*]; done)), (by first | rfl | (simp; done) | (simp [*]; done)), H', ⟨Nat.le_refl _⟩, ⟨by (with_reducible repeat (first | refine blk_drewN ?_ _ | refine blk_drew ?_ | refine blk_alloc ?_ _)); exact BK322.out⟩, ⟨by repeat (first | (with_reducible first | exact HB.out | apply below_alloc | apply pw_below_drewN | apply below_drew1 | refine below_set ?_ GE322.out) | exact HB.out)⟩⟩
  case round =>
    clear H'
    try clear p2
    obtain ⟨x3_1, x4_1, rfl, rfl, HA, HK1, BK322, HB⟩ := hrel
    cases gk with
    | zero => exact absurd HA.out (by simp [paternosterref04_Most.l0])
    | succ k1 =>
      have H := HA.out
      clear HA
      simp only [paternosterref04_Most.l0] at H
      by_cases c3 : x4_1 < 65
      · rw [if_pos c3] at H
        have c3b0 : decide (x4_1 < 65) = true := decide_eq_true c3
        clear c3
        replace H := Option.bind_eq_some_iff.mp H
        obtain ⟨t323, A40, H⟩ := H
        replace H : ((paternosterref04_Peak.f k1 a0_0 a0_1 a0_2 a0_3 a0_4 a0_5 x4_1 (-1)).bind fun t324 => (if t323 > x3_1 then (if t324 > t323 then (paternosterref04_Most.l0 k1 t324 (wrap64 (x4_1 + 1)) a0_0 a0_1 a0_2 a0_3 a0_4 a0_5) else (paternosterref04_Most.l0 k1 t323 (wrap64 (x4_1 + 1)) a0_0 a0_1 a0_2 a0_3 a0_4 a0_5)) else (if t324 > x3_1 then (paternosterref04_Most.l0 k1 t324 (wrap64 (x4_1 + 1)) a0_0 a0_1 a0_2 a0_3 a0_4 a0_5) else (paternosterref04_Most.l0 k1 x3_1 (wrap64 (x4_1 + 1)) a0_0 a0_1 a0_2 a0_3 a0_4 a0_5)))) = some r := H
        have A4 := Aside0.mk A40
        clear A40
        replace H := Option.bind_eq_some_iff.mp H
        obtain ⟨t324, A50, H⟩ := H
        replace H : (if t323 > x3_1 then (if t324 > t323 then (paternosterref04_Most.l0 k1 t324 (wrap64 (x4_1 + 1)) a0_0 a0_1 a0_2 a0_3 a0_4 a0_5) else (paternosterref04_Most.l0 k1 t323 (wrap64 (x4_1 + 1)) a0_0 a0_1 a0_2 a0_3 a0_4 a0_5)) else (if t324 > x3_1 then (paternosterref04_Most.l0 k1 t324 (wrap64 (x4_1 + 1)) a0_0 a0_1 a0_2 a0_3 a0_4 a0_5) else (paternosterref04_Most.l0 k1 x3_1 (wrap64 (x4_1 + 1)) a0_0 a0_1 a0_2 a0_3 a0_4 a0_5))) = some r := H
        have A5 := Aside0.mk A50
        clear A50
        by_cases c6 : t323 > x3_1
        · rw [if_pos c6] at H
          have c6b0 : decide (x3_1 < t323) = true := decide_eq_true c6
          clear c6
          by_cases c7 : t324 > t323
          · rw [if_pos c7] at H
            have c7b0 : decide (t323 < t324) = true := decide_eq_true c7
            clear c7
            have H' := Aside0.mk H
            clear H
            have hcz8_0 : wr.cell? ⟨gb322, 0, none⟩ = some (.int .i64 a0_0) := (blk_cell BK322.out 0).trans rfl
            have hcz8_1 : wr.cell? ⟨gb322, 1, none⟩ = some (.int .i64 a0_1) := (blk_cell BK322.out 1).trans rfl
            have hcz8_2 : wr.cell? ⟨gb322, 2, none⟩ = some (.int .i64 a0_2) := (blk_cell BK322.out 2).trans rfl
            have hcz8_3 : wr.cell? ⟨gb322, 3, none⟩ = some (.int .i64 a0_3) := (blk_cell BK322.out 3).trans rfl
            have hcz8_4 : wr.cell? ⟨gb322, 4, none⟩ = some (.int .i64 a0_4) := (blk_cell BK322.out 4).trans rfl
            have hcz8_5 : wr.cell? ⟨gb322, 5, none⟩ = some (.int .i64 a0_5) := (blk_cell BK322.out 5).trans rfl
            have hfz8_0 := blk_frozen BK322.out 0
            have hfz8_1 := blk_frozen BK322.out 1
            have hfz8_2 := blk_frozen BK322.out 2
            have hfz8_3 := blk_frozen BK322.out 3
            have hfz8_4 := blk_frozen BK322.out 4
            have hfz8_5 := blk_frozen BK322.out 5
            go_wp2_with (first | ((with_reducible refine gate_callee (f := 38) rfl ?_); refine goesL_ (some 13) rfl rfl Try.func38 (by kernel_rfl) rfl #[.agg #[.int .i64 a0_0, .int .i64 a0_1, .int .i64 a0_2, .int .i64 a0_3, .int .i64 a0_4, .int .i64 a0_5], .int .i64 x4_1, .int .i64 1] rfl (by (try simp only [List.map_toArray, List.map_cons, List.map_nil]); first | done | rfl | (simp only [List.length_drop, List.length_take]; rfl)) ?_; (with_reducible refine (paternosterref04_Peak.calls k1 a0_0 a0_1 a0_2 a0_3 a0_4 a0_5 x4_1 1 t323 _ A4.out).mono ?_); rintro e w9 ⟨rfl, hb⟩; refine ⟨_, rfl, ?_⟩; have n0_ := Aside0.mk (blk_below (g := gb322) (o := .cells #[.int .i64 a0_0, .int .i64 a0_1, .int .i64 a0_2, .int .i64 a0_3, .int .i64 a0_4, .int .i64 a0_5] 45 (0, 0)) (by (with_reducible repeat (first | refine blk_drewN ?_ _ | refine blk_drew ?_ | refine blk_alloc ?_ _)); exact BK322.out) hb); have n1_ := Aside0.mk (below_step (by repeat (first | (with_reducible first | exact HB.out | apply below_alloc | apply pw_below_drewN | apply below_drew1 | refine below_set ?_ GE322.out) | exact HB.out)) hb); clear BK322; clear HB; have BK322 := n0_; have HB := n1_; clear n0_ n1_; (try clear hb); (try clear hb2); (try clear hk); (try clear hi); have hcz10_0 : w9.cell? ⟨gb322, 0, none⟩ = some (.int .i64 a0_0) := (blk_cell BK322.out 0).trans rfl; have hcz10_1 : w9.cell? ⟨gb322, 1, none⟩ = some (.int .i64 a0_1) := (blk_cell BK322.out 1).trans rfl; have hcz10_2 : w9.cell? ⟨gb322, 2, none⟩ = some (.int .i64 a0_2) := (blk_cell BK322.out 2).trans rfl; have hcz10_3 : w9.cell? ⟨gb322, 3, none⟩ = some (.int .i64 a0_3) := (blk_cell BK322.out 3).trans rfl; have hcz10_4 : w9.cell? ⟨gb322, 4, none⟩ = some (.int .i64 a0_4) := (blk_cell BK322.out 4).trans rfl; have hcz10_5 : w9.cell? ⟨gb322, 5, none⟩ = some (.int .i64 a0_5) := (blk_cell BK322.out 5).trans rfl; have hfz10_0 := blk_frozen BK322.out 0; have hfz10_1 := blk_frozen BK322.out 1; have hfz10_2 := blk_frozen BK322.out 2; have hfz10_3 := blk_frozen BK322.out 3; have hfz10_4 := blk_frozen BK322.out 4; have hfz10_5 := blk_frozen BK322.out 5) | ((with_reducible refine gate_callee (f := 38) rfl ?_); refine goesL_ (some 16) rfl rfl Try.func38 (by kernel_rfl) rfl #[.agg #[.int .i64 a0_0, .int .i64 a0_1, .int .i64 a0_2, .int .i64 a0_3, .int .i64 a0_4, .int .i64 a0_5], .int .i64 x4_1, .int .i64 (-1)] rfl (by (try simp only [List.map_toArray, List.map_cons, List.map_nil]); first | done | rfl | (simp only [List.length_drop, List.length_take]; rfl)) ?_; (with_reducible refine (paternosterref04_Peak.calls k1 a0_0 a0_1 a0_2 a0_3 a0_4 a0_5 x4_1 (-1) t324 _ A5.out).mono ?_); rintro e w11 ⟨rfl, hb⟩; refine ⟨_, rfl, ?_⟩; have n0_ := Aside0.mk (blk_below (g := gb322) (o := .cells #[.int .i64 a0_0, .int .i64 a0_1, .int .i64 a0_2, .int .i64 a0_3, .int .i64 a0_4, .int .i64 a0_5] 45 (0, 0)) (by (with_reducible repeat (first | refine blk_drewN ?_ _ | refine blk_drew ?_ | refine blk_alloc ?_ _)); exact BK322.out) hb); have n1_ := Aside0.mk (below_step (by repeat (first | (with_reducible first | exact HB.out | apply below_alloc | apply pw_below_drewN | apply below_drew1 | refine below_set ?_ GE322.out) | exact HB.out)) hb); clear BK322; clear HB; have BK322 := n0_; have HB := n1_; clear n0_ n1_; (try clear hb); (try clear hb2); (try clear hk); (try clear hi)))
            go_roundg k1
            case measure => have := HK1.out; omega
            case rel => exact ⟨(t324), (wrap64 (x4_1 + 1)), (by first | rfl | (simp; done) | (simp [*]; done)), (by first | rfl | (simp; done) | (simp [*]; done)), H', ⟨by have := HK1.out; omega⟩, ⟨by (with_reducible repeat (first | refine blk_drewN ?_ _ | refine blk_drew ?_ | refine blk_alloc ?_ _)); exact BK322.out⟩, ⟨by repeat (first | (with_reducible first | exact HB.out | apply below_alloc | apply pw_below_drewN | apply below_drew1 | refine below_set ?_ GE322.out) | exact HB.out)⟩⟩
          · rw [if_neg c7] at H
            have c7b0 : decide (t323 < t324) = false := decide_eq_false c7
            clear c7
            have H' := Aside0.mk H
            clear H
            have hcz12_0 : wr.cell? ⟨gb322, 0, none⟩ = some (.int .i64 a0_0) := (blk_cell BK322.out 0).trans rfl
            have hcz12_1 : wr.cell? ⟨gb322, 1, none⟩ = some (.int .i64 a0_1) := (blk_cell BK322.out 1).trans rfl
            have hcz12_2 : wr.cell? ⟨gb322, 2, none⟩ = some (.int .i64 a0_2) := (blk_cell BK322.out 2).trans rfl
            have hcz12_3 : wr.cell? ⟨gb322, 3, none⟩ = some (.int .i64 a0_3) := (blk_cell BK322.out 3).trans rfl
            have hcz12_4 : wr.cell? ⟨gb322, 4, none⟩ = some (.int .i64 a0_4) := (blk_cell BK322.out 4).trans rfl
            have hcz12_5 : wr.cell? ⟨gb322, 5, none⟩ = some (.int .i64 a0_5) := (blk_cell BK322.out 5).trans rfl
            have hfz12_0 := blk_frozen BK322.out 0
            have hfz12_1 := blk_frozen BK322.out 1
            have hfz12_2 := blk_frozen BK322.out 2
            have hfz12_3 := blk_frozen BK322.out 3
            have hfz12_4 := blk_frozen BK322.out 4
            have hfz12_5 := blk_frozen BK322.out 5
            go_wp2_with (first | ((with_reducible refine gate_callee (f := 38) rfl ?_); refine goesL_ (some 13) rfl rfl Try.func38 (by kernel_rfl) rfl #[.agg #[.int .i64 a0_0, .int .i64 a0_1, .int .i64 a0_2, .int .i64 a0_3, .int .i64 a0_4, .int .i64 a0_5], .int .i64 x4_1, .int .i64 1] rfl (by (try simp only [List.map_toArray, List.map_cons, List.map_nil]); first | done | rfl | (simp only [List.length_drop, List.length_take]; rfl)) ?_; (with_reducible refine (paternosterref04_Peak.calls k1 a0_0 a0_1 a0_2 a0_3 a0_4 a0_5 x4_1 1 t323 _ A4.out).mono ?_); rintro e w13 ⟨rfl, hb⟩; refine ⟨_, rfl, ?_⟩; have n0_ := Aside0.mk (blk_below (g := gb322) (o := .cells #[.int .i64 a0_0, .int .i64 a0_1, .int .i64 a0_2, .int .i64 a0_3, .int .i64 a0_4, .int .i64 a0_5] 45 (0, 0)) (by (with_reducible repeat (first | refine blk_drewN ?_ _ | refine blk_drew ?_ | refine blk_alloc ?_ _)); exact BK322.out) hb); have n1_ := Aside0.mk (below_step (by repeat (first | (with_reducible first | exact HB.out | apply below_alloc | apply pw_below_drewN | apply below_drew1 | refine below_set ?_ GE322.out) | exact HB.out)) hb); clear BK322; clear HB; have BK322 := n0_; have HB := n1_; clear n0_ n1_; (try clear hb); (try clear hb2); (try clear hk); (try clear hi); have hcz14_0 : w13.cell? ⟨gb322, 0, none⟩ = some (.int .i64 a0_0) := (blk_cell BK322.out 0).trans rfl; have hcz14_1 : w13.cell? ⟨gb322, 1, none⟩ = some (.int .i64 a0_1) := (blk_cell BK322.out 1).trans rfl; have hcz14_2 : w13.cell? ⟨gb322, 2, none⟩ = some (.int .i64 a0_2) := (blk_cell BK322.out 2).trans rfl; have hcz14_3 : w13.cell? ⟨gb322, 3, none⟩ = some (.int .i64 a0_3) := (blk_cell BK322.out 3).trans rfl; have hcz14_4 : w13.cell? ⟨gb322, 4, none⟩ = some (.int .i64 a0_4) := (blk_cell BK322.out 4).trans rfl; have hcz14_5 : w13.cell? ⟨gb322, 5, none⟩ = some (.int .i64 a0_5) := (blk_cell BK322.out 5).trans rfl; have hfz14_0 := blk_frozen BK322.out 0; have hfz14_1 := blk_frozen BK322.out 1; have hfz14_2 := blk_frozen BK322.out 2; have hfz14_3 := blk_frozen BK322.out 3; have hfz14_4 := blk_frozen BK322.out 4; have hfz14_5 := blk_frozen BK322.out 5) | ((with_reducible refine gate_callee (f := 38) rfl ?_); refine goesL_ (some 16) rfl rfl Try.func38 (by kernel_rfl) rfl #[.agg #[.int .i64 a0_0, .int .i64 a0_1, .int .i64 a0_2, .int .i64 a0_3, .int .i64 a0_4, .int .i64 a0_5], .int .i64 x4_1, .int .i64 (-1)] rfl (by (try simp only [List.map_toArray, List.map_cons, List.map_nil]); first | done | rfl | (simp only [List.length_drop, List.length_take]; rfl)) ?_; (with_reducible refine (paternosterref04_Peak.calls k1 a0_0 a0_1 a0_2 a0_3 a0_4 a0_5 x4_1 (-1) t324 _ A5.out).mono ?_); rintro e w15 ⟨rfl, hb⟩; refine ⟨_, rfl, ?_⟩; have n0_ := Aside0.mk (blk_below (g := gb322) (o := .cells #[.int .i64 a0_0, .int .i64 a0_1, .int .i64 a0_2, .int .i64 a0_3, .int .i64 a0_4, .int .i64 a0_5] 45 (0, 0)) (by (with_reducible repeat (first | refine blk_drewN ?_ _ | refine blk_drew ?_ | refine blk_alloc ?_ _)); exact BK322.out) hb); have n1_ := Aside0.mk (below_step (by repeat (first | (with_reducible first | exact HB.out | apply below_alloc | apply pw_below_drewN | apply below_drew1 | refine below_set ?_ GE322.out) | exact HB.out)) hb); clear BK322; clear HB; have BK322 := n0_; have HB := n1_; clear n0_ n1_; (try clear hb); (try clear hb2); (try clear hk); (try clear hi)))
            go_roundg k1
            case measure => have := HK1.out; omega
            case rel => exact ⟨(t323), (wrap64 (x4_1 + 1)), (by first | rfl | (simp; done) | (simp [*]; done)), (by first | rfl | (simp; done) | (simp [*]; done)), H', ⟨by have := HK1.out; omega⟩, ⟨by (with_reducible repeat (first | refine blk_drewN ?_ _ | refine blk_drew ?_ | refine blk_alloc ?_ _)); exact BK322.out⟩, ⟨by repeat (first | (with_reducible first | exact HB.out | apply below_alloc | apply pw_below_drewN | apply below_drew1 | refine below_set ?_ GE322.out) | exact HB.out)⟩⟩
        · rw [if_neg c6] at H
          have c6b0 : decide (x3_1 < t323) = false := decide_eq_false c6
          clear c6
          by_cases c16 : t324 > x3_1
          · rw [if_pos c16] at H
            have c16b0 : decide (x3_1 < t324) = true := decide_eq_true c16
            clear c16
            have H' := Aside0.mk H
            clear H
            have hcz17_0 : wr.cell? ⟨gb322, 0, none⟩ = some (.int .i64 a0_0) := (blk_cell BK322.out 0).trans rfl
            have hcz17_1 : wr.cell? ⟨gb322, 1, none⟩ = some (.int .i64 a0_1) := (blk_cell BK322.out 1).trans rfl
            have hcz17_2 : wr.cell? ⟨gb322, 2, none⟩ = some (.int .i64 a0_2) := (blk_cell BK322.out 2).trans rfl
            have hcz17_3 : wr.cell? ⟨gb322, 3, none⟩ = some (.int .i64 a0_3) := (blk_cell BK322.out 3).trans rfl
            have hcz17_4 : wr.cell? ⟨gb322, 4, none⟩ = some (.int .i64 a0_4) := (blk_cell BK322.out 4).trans rfl
            have hcz17_5 : wr.cell? ⟨gb322, 5, none⟩ = some (.int .i64 a0_5) := (blk_cell BK322.out 5).trans rfl
            have hfz17_0 := blk_frozen BK322.out 0
            have hfz17_1 := blk_frozen BK322.out 1
            have hfz17_2 := blk_frozen BK322.out 2
            have hfz17_3 := blk_frozen BK322.out 3
            have hfz17_4 := blk_frozen BK322.out 4
            have hfz17_5 := blk_frozen BK322.out 5
            go_wp2_with (first | ((with_reducible refine gate_callee (f := 38) rfl ?_); refine goesL_ (some 13) rfl rfl Try.func38 (by kernel_rfl) rfl #[.agg #[.int .i64 a0_0, .int .i64 a0_1, .int .i64 a0_2, .int .i64 a0_3, .int .i64 a0_4, .int .i64 a0_5], .int .i64 x4_1, .int .i64 1] rfl (by (try simp only [List.map_toArray, List.map_cons, List.map_nil]); first | done | rfl | (simp only [List.length_drop, List.length_take]; rfl)) ?_; (with_reducible refine (paternosterref04_Peak.calls k1 a0_0 a0_1 a0_2 a0_3 a0_4 a0_5 x4_1 1 t323 _ A4.out).mono ?_); rintro e w18 ⟨rfl, hb⟩; refine ⟨_, rfl, ?_⟩; have n0_ := Aside0.mk (blk_below (g := gb322) (o := .cells #[.int .i64 a0_0, .int .i64 a0_1, .int .i64 a0_2, .int .i64 a0_3, .int .i64 a0_4, .int .i64 a0_5] 45 (0, 0)) (by (with_reducible repeat (first | refine blk_drewN ?_ _ | refine blk_drew ?_ | refine blk_alloc ?_ _)); exact BK322.out) hb); have n1_ := Aside0.mk (below_step (by repeat (first | (with_reducible first | exact HB.out | apply below_alloc | apply pw_below_drewN | apply below_drew1 | refine below_set ?_ GE322.out) | exact HB.out)) hb); clear BK322; clear HB; have BK322 := n0_; have HB := n1_; clear n0_ n1_; (try clear hb); (try clear hb2); (try clear hk); (try clear hi); have hcz19_0 : w18.cell? ⟨gb322, 0, none⟩ = some (.int .i64 a0_0) := (blk_cell BK322.out 0).trans rfl; have hcz19_1 : w18.cell? ⟨gb322, 1, none⟩ = some (.int .i64 a0_1) := (blk_cell BK322.out 1).trans rfl; have hcz19_2 : w18.cell? ⟨gb322, 2, none⟩ = some (.int .i64 a0_2) := (blk_cell BK322.out 2).trans rfl; have hcz19_3 : w18.cell? ⟨gb322, 3, none⟩ = some (.int .i64 a0_3) := (blk_cell BK322.out 3).trans rfl; have hcz19_4 : w18.cell? ⟨gb322, 4, none⟩ = some (.int .i64 a0_4) := (blk_cell BK322.out 4).trans rfl; have hcz19_5 : w18.cell? ⟨gb322, 5, none⟩ = some (.int .i64 a0_5) := (blk_cell BK322.out 5).trans rfl; have hfz19_0 := blk_frozen BK322.out 0; have hfz19_1 := blk_frozen BK322.out 1; have hfz19_2 := blk_frozen BK322.out 2; have hfz19_3 := blk_frozen BK322.out 3; have hfz19_4 := blk_frozen BK322.out 4; have hfz19_5 := blk_frozen BK322.out 5) | ((with_reducible refine gate_callee (f := 38) rfl ?_); refine goesL_ (some 16) rfl rfl Try.func38 (by kernel_rfl) rfl #[.agg #[.int .i64 a0_0, .int .i64 a0_1, .int .i64 a0_2, .int .i64 a0_3, .int .i64 a0_4, .int .i64 a0_5], .int .i64 x4_1, .int .i64 (-1)] rfl (by (try simp only [List.map_toArray, List.map_cons, List.map_nil]); first | done | rfl | (simp only [List.length_drop, List.length_take]; rfl)) ?_; (with_reducible refine (paternosterref04_Peak.calls k1 a0_0 a0_1 a0_2 a0_3 a0_4 a0_5 x4_1 (-1) t324 _ A5.out).mono ?_); rintro e w20 ⟨rfl, hb⟩; refine ⟨_, rfl, ?_⟩; have n0_ := Aside0.mk (blk_below (g := gb322) (o := .cells #[.int .i64 a0_0, .int .i64 a0_1, .int .i64 a0_2, .int .i64 a0_3, .int .i64 a0_4, .int .i64 a0_5] 45 (0, 0)) (by (with_reducible repeat (first | refine blk_drewN ?_ _ | refine blk_drew ?_ | refine blk_alloc ?_ _)); exact BK322.out) hb); have n1_ := Aside0.mk (below_step (by repeat (first | (with_reducible first | exact HB.out | apply below_alloc | apply pw_below_drewN | apply below_drew1 | refine below_set ?_ GE322.out) | exact HB.out)) hb); clear BK322; clear HB; have BK322 := n0_; have HB := n1_; clear n0_ n1_; (try clear hb); (try clear hb2); (try clear hk); (try clear hi)))
            go_roundg k1
            case measure => have := HK1.out; omega
            case rel => exact ⟨(t324), (wrap64 (x4_1 + 1)), (by first | rfl | (simp; done) | (simp [*]; done)), (by first | rfl | (simp; done) | (simp [*]; done)), H', ⟨by have := HK1.out; omega⟩, ⟨by (with_reducible repeat (first | refine blk_drewN ?_ _ | refine blk_drew ?_ | refine blk_alloc ?_ _)); exact BK322.out⟩, ⟨by repeat (first | (with_reducible first | exact HB.out | apply below_alloc | apply pw_below_drewN | apply below_drew1 | refine below_set ?_ GE322.out) | exact HB.out)⟩⟩
          · rw [if_neg c16] at H
            have c16b0 : decide (x3_1 < t324) = false := decide_eq_false c16
            clear c16
            have H' := Aside0.mk H
            clear H
            have hcz21_0 : wr.cell? ⟨gb322, 0, none⟩ = some (.int .i64 a0_0) := (blk_cell BK322.out 0).trans rfl
            have hcz21_1 : wr.cell? ⟨gb322, 1, none⟩ = some (.int .i64 a0_1) := (blk_cell BK322.out 1).trans rfl
            have hcz21_2 : wr.cell? ⟨gb322, 2, none⟩ = some (.int .i64 a0_2) := (blk_cell BK322.out 2).trans rfl
            have hcz21_3 : wr.cell? ⟨gb322, 3, none⟩ = some (.int .i64 a0_3) := (blk_cell BK322.out 3).trans rfl
            have hcz21_4 : wr.cell? ⟨gb322, 4, none⟩ = some (.int .i64 a0_4) := (blk_cell BK322.out 4).trans rfl
            have hcz21_5 : wr.cell? ⟨gb322, 5, none⟩ = some (.int .i64 a0_5) := (blk_cell BK322.out 5).trans rfl
            have hfz21_0 := blk_frozen BK322.out 0
            have hfz21_1 := blk_frozen BK322.out 1
            have hfz21_2 := blk_frozen BK322.out 2
            have hfz21_3 := blk_frozen BK322.out 3
            have hfz21_4 := blk_frozen BK322.out 4
            have hfz21_5 := blk_frozen BK322.out 5
            go_wp2_with (first | ((with_reducible refine gate_callee (f := 38) rfl ?_); refine goesL_ (some 13) rfl rfl Try.func38 (by kernel_rfl) rfl #[.agg #[.int .i64 a0_0, .int .i64 a0_1, .int .i64 a0_2, .int .i64 a0_3, .int .i64 a0_4, .int .i64 a0_5], .int .i64 x4_1, .int .i64 1] rfl (by (try simp only [List.map_toArray, List.map_cons, List.map_nil]); first | done | rfl | (simp only [List.length_drop, List.length_take]; rfl)) ?_; (with_reducible refine (paternosterref04_Peak.calls k1 a0_0 a0_1 a0_2 a0_3 a0_4 a0_5 x4_1 1 t323 _ A4.out).mono ?_); rintro e w22 ⟨rfl, hb⟩; refine ⟨_, rfl, ?_⟩; have n0_ := Aside0.mk (blk_below (g := gb322) (o := .cells #[.int .i64 a0_0, .int .i64 a0_1, .int .i64 a0_2, .int .i64 a0_3, .int .i64 a0_4, .int .i64 a0_5] 45 (0, 0)) (by (with_reducible repeat (first | refine blk_drewN ?_ _ | refine blk_drew ?_ | refine blk_alloc ?_ _)); exact BK322.out) hb); have n1_ := Aside0.mk (below_step (by repeat (first | (with_reducible first | exact HB.out | apply below_alloc | apply pw_below_drewN | apply below_drew1 | refine below_set ?_ GE322.out) | exact HB.out)) hb); clear BK322; clear HB; have BK322 := n0_; have HB := n1_; clear n0_ n1_; (try clear hb); (try clear hb2); (try clear hk); (try clear hi); have hcz23_0 : w22.cell? ⟨gb322, 0, none⟩ = some (.int .i64 a0_0) := (blk_cell BK322.out 0).trans rfl; have hcz23_1 : w22.cell? ⟨gb322, 1, none⟩ = some (.int .i64 a0_1) := (blk_cell BK322.out 1).trans rfl; have hcz23_2 : w22.cell? ⟨gb322, 2, none⟩ = some (.int .i64 a0_2) := (blk_cell BK322.out 2).trans rfl; have hcz23_3 : w22.cell? ⟨gb322, 3, none⟩ = some (.int .i64 a0_3) := (blk_cell BK322.out 3).trans rfl; have hcz23_4 : w22.cell? ⟨gb322, 4, none⟩ = some (.int .i64 a0_4) := (blk_cell BK322.out 4).trans rfl; have hcz23_5 : w22.cell? ⟨gb322, 5, none⟩ = some (.int .i64 a0_5) := (blk_cell BK322.out 5).trans rfl; have hfz23_0 := blk_frozen BK322.out 0; have hfz23_1 := blk_frozen BK322.out 1; have hfz23_2 := blk_frozen BK322.out 2; have hfz23_3 := blk_frozen BK322.out 3; have hfz23_4 := blk_frozen BK322.out 4; have hfz23_5 := blk_frozen BK322.out 5) | ((with_reducible refine gate_callee (f := 38) rfl ?_); refine goesL_ (some 16) rfl rfl Try.func38 (by kernel_rfl) rfl #[.agg #[.int .i64 a0_0, .int .i64 a0_1, .int .i64 a0_2, .int .i64 a0_3, .int .i64 a0_4, .int .i64 a0_5], .int .i64 x4_1, .int .i64 (-1)] rfl (by (try simp only [List.map_toArray, List.map_cons, List.map_nil]); first | done | rfl | (simp only [List.length_drop, List.length_take]; rfl)) ?_; (with_reducible refine (paternosterref04_Peak.calls k1 a0_0 a0_1 a0_2 a0_3 a0_4 a0_5 x4_1 (-1) t324 _ A5.out).mono ?_); rintro e w24 ⟨rfl, hb⟩; refine ⟨_, rfl, ?_⟩; have n0_ := Aside0.mk (blk_below (g := gb322) (o := .cells #[.int .i64 a0_0, .int .i64 a0_1, .int .i64 a0_2, .int .i64 a0_3, .int .i64 a0_4, .int .i64 a0_5] 45 (0, 0)) (by (with_reducible repeat (first | refine blk_drewN ?_ _ | refine blk_drew ?_ | refine blk_alloc ?_ _)); exact BK322.out) hb); have n1_ := Aside0.mk (below_step (by repeat (first | (with_reducible first | exact HB.out | apply below_alloc | apply pw_below_drewN | apply below_drew1 | refine below_set ?_ GE322.out) | exact HB.out)) hb); clear BK322; clear HB; have BK322 := n0_; have HB := n1_; clear n0_ n1_; (try clear hb); (try clear hb2); (try clear hk); (try clear hi)))
            go_roundg k1
            case measure => have := HK1.out; omega
            case rel => exact ⟨(x3_1), (wrap64 (x4_1 + 1)), (by first | rfl | (simp; done) | (simp [*]; done)), (by first | rfl | (simp; done) | (simp [*]; done)), H', ⟨by have := HK1.out; omega⟩, ⟨by (with_reducible repeat (first | refine blk_drewN ?_ _ | refine blk_drew ?_ | refine blk_alloc ?_ _)); exact BK322.out⟩, ⟨by repeat (first | (with_reducible first | exact HB.out | apply below_alloc | apply pw_below_drewN | apply below_drew1 | refine below_set ?_ GE322.out) | exact HB.out)⟩⟩
      · rw [if_neg c3] at H
        have c3b0 : decide (x4_1 < 65) = false := decide_eq_false c3
        clear c3
        obtain rfl := Option.some.inj H
        go_wp2
        go_ret
        exact ⟨by first | rfl | (simp [errW_none, errW_some] <;> rfl) | (simp [*, errW_none, errW_some] <;> rfl), by repeat (first | (with_reducible first | exact HB.out | apply below_alloc | apply pw_below_drewN | apply below_drew1 | refine below_set ?_ GE322.out) | exact HB.out)⟩

/-! ### paternosterref05_Most: function 43 -/
def paternosterref05_Most.l0 : Nat → Int → Int → List (S69) → Int → Int → List Int → Int → Int → Int → Int → Int → Int → Int → Int → Int → Option (Int)
  | 0, _, _, _, _, _, _, _, _, _, _, _, _, _, _, _ => none
  | k + 1, x3, x4, x326000, x326001, x326002, x326003, x326004, x326005, x326006, x326007, x326008, x326009, x326010, x326011, x326012 => if x4 < (x326000.length : Int) then (if 0 ≤ x4 then ((paternosterref04_Most.f k ((rd_T69 x326000 x4).f1.f0) ((rd_T69 x326000 x4).f1.f1) ((rd_T69 x326000 x4).f1.f2) ((rd_T69 x326000 x4).f1.f3) ((rd_T69 x326000 x4).f1.f4) ((rd_T69 x326000 x4).f1.f5)).bind fun t327 => (if t327 > x3 then (paternosterref05_Most.l0 k t327 (wrap64 (x4 + 1)) x326000 x326001 x326002 x326003 x326004 x326005 x326006 x326007 x326008 x326009 x326010 x326011 x326012) else (paternosterref05_Most.l0 k x3 (wrap64 (x4 + 1)) x326000 x326001 x326002 x326003 x326004 x326005 x326006 x326007 x326008 x326009 x326010 x326011 x326012))) else (none)) else (some x3)
def paternosterref05_Most.f (k : Nat) (l0_0 : List (S69)) (a0_1 : Int) (a0_2 : Int) (l0_3 : List Int) (a0_4 : Int) (a0_5 : Int) (a0_6 : Int) (a0_7 : Int) (a0_8 : Int) (a0_9 : Int) (a0_10 : Int) (a0_11 : Int) (a0_12 : Int) : Option (Int) := paternosterref05_Most.l0 k 0 0 l0_0 a0_1 a0_2 l0_3 a0_4 a0_5 a0_6 a0_7 a0_8 a0_9 a0_10 a0_11 a0_12
theorem paternosterref05_Most.mono_l : ∀ k, (∀ y0 y1 y2 y3 y4 y5 y6 y7 y8 y9 y10 y11 y12 y13 y14, LeO (paternosterref05_Most.l0 k y0 y1 y2 y3 y4 y5 y6 y7 y8 y9 y10 y11 y12 y13 y14) (paternosterref05_Most.l0 (k + 1) y0 y1 y2 y3 y4 y5 y6 y7 y8 y9 y10 y11 y12 y13 y14))
  | 0 => fun _ _ _ _ _ _ _ _ _ _ _ _ _ _ _ r h => by simp [paternosterref05_Most.l0] at h
  | k + 1 => by
    have ih0 := paternosterref05_Most.mono_l k
    · intro y0 y1 y2 y3 y4 y5 y6 y7 y8 y9 y10 y11 y12 y13 y14
      unfold paternosterref05_Most.l0
      repeat' first
      | (with_reducible exact ih0 _ _ _ _ _ _ _ _ _ _ _ _ _ _ _)
      | (with_reducible exact paternosterref04_Most.mono _ _ _ _ _ _ _)
      | (with_reducible exact LeO.refl _)
      | (with_reducible exact LeO.none _)
      | (with_reducible refine LeO.ite ?_ ?_)
      | (with_reducible refine LeO.bind ?_ (fun _ => ?_))
      | exact ih0 _ _ _ _ _ _ _ _ _ _ _ _ _ _ _
      | exact paternosterref04_Most.mono _ _ _ _ _ _ _
      | exact LeO.none _
      | refine LeO.ite ?_ ?_
      | refine LeO.bind ?_ (fun _ => ?_)
theorem paternosterref05_Most.mono : ∀ a0 a1 a2 a3 a4 a5 a6 a7 a8 a9 a10 a11 a12 k, LeO (paternosterref05_Most.f k a0 a1 a2 a3 a4 a5 a6 a7 a8 a9 a10 a11 a12) (paternosterref05_Most.f (k + 1) a0 a1 a2 a3 a4 a5 a6 a7 a8 a9 a10 a11 a12) := by
  intro a0 a1 a2 a3 a4 a5 a6 a7 a8 a9 a10 a11 a12 k
  have ih0 := paternosterref05_Most.mono_l k
  unfold paternosterref05_Most.f
  repeat' first
      | (with_reducible exact ih0 _ _ _ _ _ _ _ _ _ _ _ _ _ _ _)
      | (with_reducible exact paternosterref04_Most.mono _ _ _ _ _ _ _)
      | (with_reducible exact LeO.refl _)
      | (with_reducible exact LeO.none _)
      | (with_reducible refine LeO.ite ?_ ?_)
      | (with_reducible refine LeO.bind ?_ (fun _ => ?_))
      | exact ih0 _ _ _ _ _ _ _ _ _ _ _ _ _ _ _
      | exact paternosterref04_Most.mono _ _ _ _ _ _ _
      | exact LeO.none _
      | refine LeO.ite ?_ ?_
      | refine LeO.bind ?_ (fun _ => ?_)
set_option maxHeartbeats 8000000 in
set_option maxRecDepth 100000 in
theorem paternosterref05_Most.calls (k : Nat) (A0_0 : Option Addr) (c0_0 : Nat) (l0_0 : List (S69)) (a0_1 : Int) (a0_2 : Int) (A0_3 : Option Addr) (c0_3 : Nat) (l0_3 : List Int) (a0_4 : Int) (a0_5 : Int) (a0_6 : Int) (a0_7 : Int) (a0_8 : Int) (a0_9 : Int) (a0_10 : Int) (a0_11 : Int) (a0_12 : Int) (r : Int) (w : World) (hr0_0 : Kd.C k69 w A0_0 l0_0.length l0_0) (hc0_0 : l0_0.length ≤ c0_0) (hr0_3 : Kd.C (Kd.int .i64) w A0_3 l0_3.length l0_3) (hc0_3 : l0_3.length ≤ c0_3) (h : paternosterref05_Most.f k l0_0 a0_1 a0_2 l0_3 a0_4 a0_5 a0_6 a0_7 a0_8 a0_9 a0_10 a0_11 a0_12 = some r) :
    Calls Try.prog 43 #[.agg #[.slice A0_0 l0_0.length c0_0, .int .i64 a0_1, .int .i64 a0_2, .slice A0_3 l0_3.length c0_3, .int .i64 a0_4, .int .i64 a0_5, .int .i64 a0_6, .int .i64 a0_7, .int .i64 a0_8, .int .i64 a0_9, .int .i64 a0_10, .int .i64 a0_11, .int .i64 a0_12]] w fun e w' => e = .returned (.int .i64 r) ∧ Below w.heap.size w w' := by
  have hu31 := Try.underlying31
  have hu45 := Try.underlying45
  have HR0_0 := Aside0.mk hr0_0
  have HC0_0 := Aside0.mk hc0_0
  clear hr0_0 hc0_0
  have HR0_3 := Aside0.mk hr0_3
  have HC0_3 := Aside0.mk hc0_3
  clear hr0_3 hc0_3
  have HB := Aside0.mk (Below.refl w.heap.size w)
  have H : (paternosterref05_Most.l0 k 0 0 l0_0 a0_1 a0_2 l0_3 a0_4 a0_5 a0_6 a0_7 a0_8 a0_9 a0_10 a0_11 a0_12) = some r := h
  clear h
  have H' := Aside0.mk H
  clear H
  go_enter Try.func43, Try.ntmps43
  go_wp2_with (first | ((with_reducible refine gate_dst (N := 1) rfl ?_); refine box_event ?hg (N := 1) ?hd (cs := #[.slice A0_0 l0_0.length c0_0, .int .i64 a0_1, .int .i64 a0_2, .slice A0_3 l0_3.length c0_3, .int .i64 a0_4, .int .i64 a0_5, .int .i64 a0_6, .int .i64 a0_7, .int .i64 a0_8, .int .i64 a0_9, .int .i64 a0_10, .int .i64 a0_11, .int .i64 a0_12]) (t := 31) ?hr ?_; (case hd => rfl); (case hg => rfl); (case hr => first | (go_simp; done) | (go_simp; rfl)); intro gb325 hg w2 hbox hb; have n0_ := Aside0.mk (below_step (by repeat (first | (with_reducible first | exact HB.out | apply below_alloc | apply pw_below_drewN | apply below_drew1) | exact HB.out)) hb); have n1_ := Aside0.mk (hbox); have n2_ := Aside0.mk ((by rw [hg]; exact (below_size (by repeat (first | (with_reducible first | exact HB.out | apply below_alloc | apply pw_below_drewN | apply below_drew1) | exact HB.out))) : w.heap.size ≤ gb325)); have n3_ := Aside0.mk ((by rw [hg]; exact (below_size (by repeat (first | (with_reducible first | exact HB.out | apply below_alloc | apply pw_below_drewN | apply below_drew1) | exact HB.out))) : w.heap.size ≤ gb325)); clear HB; have HB := n0_; have BK325 := n1_; have GW325 := n2_; have GE325 := n3_; clear n0_ n1_ n2_ n3_; clear hb hbox hg))
  go_loopg [3, 4] k (fun kq v3 v4 w' => ∃ (x3_1 : Int) (x4_1 : Int), v3 = .int .i64 x3_1 ∧ v4 = .int .i64 x4_1 ∧ Aside0 (paternosterref05_Most.l0 kq x3_1 x4_1 l0_0 a0_1 a0_2 l0_3 a0_4 a0_5 a0_6 a0_7 a0_8 a0_9 a0_10 a0_11 a0_12 = some r) ∧ Aside0 (kq ≤ k) ∧ Aside0 (w'.heap[gb325]? = some (.cells #[(.slice A0_0 l0_0.length c0_0), .int .i64 a0_1, .int .i64 a0_2, (.slice A0_3 l0_3.length c0_3), .int .i64 a0_4, .int .i64 a0_5, .int .i64 a0_6, .int .i64 a0_7, .int .i64 a0_8, .int .i64 a0_9, .int .i64 a0_10, .int .i64 a0_11, .int .i64 a0_12] 31 (0, 0))) ∧ Aside0 (Below w.heap.size w w'))
  case atStart => exact ⟨(0), (0), (by first | rfl | (simp; done) | (simp [*]; done)), (by first | rfl | (simp; done) | (simp [*]; done)), H', ⟨Nat.le_refl _⟩, ⟨by (with_reducible repeat (first | refine blk_drewN ?_ _ | refine blk_drew ?_ | refine blk_alloc ?_ _)); exact BK325.out⟩, ⟨by repeat (first | (with_reducible first | exact HB.out | apply below_alloc | apply pw_below_drewN | apply below_drew1 | refine below_set ?_ GE325.out) | exact HB.out)⟩⟩
  case round =>
    clear H'
    try clear p2
    obtain ⟨x3_1, x4_1, rfl, rfl, HA, HK1, BK325, HB⟩ := hrel
    cases gk with
    | zero => exact absurd HA.out (by simp [paternosterref05_Most.l0])
    | succ k1 =>
      have H := HA.out
      clear HA
      simp only [paternosterref05_Most.l0] at H
      by_cases c3 : x4_1 < (l0_0.length : Int)
      · rw [if_pos c3] at H
        have c3b0 : decide (x4_1 < (l0_0.length : Int)) = true := decide_eq_true c3
        clear c3
        by_cases c4 : 0 ≤ x4_1
        · rw [if_pos c4] at H
          have c4b0 : decide (0 ≤ x4_1) = true := decide_eq_true c4
          clear c4
          replace H := Option.bind_eq_some_iff.mp H
          obtain ⟨t327, A50, H⟩ := H
          replace H : (if t327 > x3_1 then (paternosterref05_Most.l0 k1 t327 (wrap64 (x4_1 + 1)) l0_0 a0_1 a0_2 l0_3 a0_4 a0_5 a0_6 a0_7 a0_8 a0_9 a0_10 a0_11 a0_12) else (paternosterref05_Most.l0 k1 x3_1 (wrap64 (x4_1 + 1)) l0_0 a0_1 a0_2 l0_3 a0_4 a0_5 a0_6 a0_7 a0_8 a0_9 a0_10 a0_11 a0_12)) = some r := H
          have A5 := Aside0.mk A50
          clear A50
          by_cases c6 : t327 > x3_1
          · rw [if_pos c6] at H
            have c6b0 : decide (x3_1 < t327) = true := decide_eq_true c6
            clear c6
            have H' := Aside0.mk H
            clear H
            have hcz7_0 : wr.cell? ⟨gb325, 0, none⟩ = some (.slice A0_0 l0_0.length c0_0) := (blk_cell BK325.out 0).trans rfl
            have hcz7_1 : wr.cell? ⟨gb325, 1, none⟩ = some (.int .i64 a0_1) := (blk_cell BK325.out 1).trans rfl
            have hcz7_2 : wr.cell? ⟨gb325, 2, none⟩ = some (.int .i64 a0_2) := (blk_cell BK325.out 2).trans rfl
            have hcz7_3 : wr.cell? ⟨gb325, 3, none⟩ = some (.slice A0_3 l0_3.length c0_3) := (blk_cell BK325.out 3).trans rfl
            have hcz7_4 : wr.cell? ⟨gb325, 4, none⟩ = some (.int .i64 a0_4) := (blk_cell BK325.out 4).trans rfl
            have hcz7_5 : wr.cell? ⟨gb325, 5, none⟩ = some (.int .i64 a0_5) := (blk_cell BK325.out 5).trans rfl
            have hcz7_6 : wr.cell? ⟨gb325, 6, none⟩ = some (.int .i64 a0_6) := (blk_cell BK325.out 6).trans rfl
            have hcz7_7 : wr.cell? ⟨gb325, 7, none⟩ = some (.int .i64 a0_7) := (blk_cell BK325.out 7).trans rfl
            have hcz7_8 : wr.cell? ⟨gb325, 8, none⟩ = some (.int .i64 a0_8) := (blk_cell BK325.out 8).trans rfl
            have hcz7_9 : wr.cell? ⟨gb325, 9, none⟩ = some (.int .i64 a0_9) := (blk_cell BK325.out 9).trans rfl
            have hcz7_10 : wr.cell? ⟨gb325, 10, none⟩ = some (.int .i64 a0_10) := (blk_cell BK325.out 10).trans rfl
            have hcz7_11 : wr.cell? ⟨gb325, 11, none⟩ = some (.int .i64 a0_11) := (blk_cell BK325.out 11).trans rfl
            have hcz7_12 : wr.cell? ⟨gb325, 12, none⟩ = some (.int .i64 a0_12) := (blk_cell BK325.out 12).trans rfl
            have hfz7_0 := blk_frozen BK325.out 0
            have hfz7_1 := blk_frozen BK325.out 1
            have hfz7_2 := blk_frozen BK325.out 2
            have hfz7_3 := blk_frozen BK325.out 3
            have hfz7_4 := blk_frozen BK325.out 4
            have hfz7_5 := blk_frozen BK325.out 5
            have hfz7_6 := blk_frozen BK325.out 6
            have hfz7_7 := blk_frozen BK325.out 7
            have hfz7_8 := blk_frozen BK325.out 8
            have hfz7_9 := blk_frozen BK325.out 9
            have hfz7_10 := blk_frozen BK325.out 10
            have hfz7_11 := blk_frozen BK325.out 11
            have hfz7_12 := blk_frozen BK325.out 12
            have p326 : 0 ≤ (x4_1 : Int) := of_decide_eq_true (by first | (with_reducible assumption) | assumption)
            have q326 : x4_1 < (l0_0.length : Int) := of_decide_eq_true (by first | (with_reducible assumption) | assumption)
            obtain ⟨ad326, e326, hx326_0, hx326_1, hx326_2, hx326_3, hx326_4, hx326_5, hx326_6⟩ := at_T69 HR0_0.out x4_1 p326 q326
            cases e326
            replace hx326_0 := (HB.out.cell (World.block_lt_of_cell? w _ hx326_0)).trans hx326_0
            replace hx326_1 := (HB.out.cell (World.block_lt_of_cell? w _ hx326_1)).trans hx326_1
            replace hx326_2 := (HB.out.cell (World.block_lt_of_cell? w _ hx326_2)).trans hx326_2
            replace hx326_3 := (HB.out.cell (World.block_lt_of_cell? w _ hx326_3)).trans hx326_3
            replace hx326_4 := (HB.out.cell (World.block_lt_of_cell? w _ hx326_4)).trans hx326_4
            replace hx326_5 := (HB.out.cell (World.block_lt_of_cell? w _ hx326_5)).trans hx326_5
            replace hx326_6 := (HB.out.cell (World.block_lt_of_cell? w _ hx326_6)).trans hx326_6
            replace p326 := eq_true p326
            replace q326 := eq_true q326
            go_wp2_with (first | ((with_reducible refine gate_callee (f := 39) rfl ?_); refine goesL_ (some 19) rfl rfl Try.func39 (by kernel_rfl) rfl #[.agg #[.int .i64 ((rd_T69 l0_0 x4_1).f1.f0), .int .i64 ((rd_T69 l0_0 x4_1).f1.f1), .int .i64 ((rd_T69 l0_0 x4_1).f1.f2), .int .i64 ((rd_T69 l0_0 x4_1).f1.f3), .int .i64 ((rd_T69 l0_0 x4_1).f1.f4), .int .i64 ((rd_T69 l0_0 x4_1).f1.f5)]] rfl (by (try simp only [List.map_toArray, List.map_cons, List.map_nil]); first | done | rfl | (simp only [List.length_drop, List.length_take]; rfl)) ?_; (with_reducible refine (paternosterref04_Most.calls k1 ((rd_T69 l0_0 x4_1).f1.f0) ((rd_T69 l0_0 x4_1).f1.f1) ((rd_T69 l0_0 x4_1).f1.f2) ((rd_T69 l0_0 x4_1).f1.f3) ((rd_T69 l0_0 x4_1).f1.f4) ((rd_T69 l0_0 x4_1).f1.f5) t327 _ A5.out).mono ?_); rintro e w8 ⟨rfl, hb⟩; refine ⟨_, rfl, ?_⟩; have n0_ := Aside0.mk (blk_below (g := gb325) (o := .cells #[.slice (some ad326) l0_0.length c0_0, .int .i64 a0_1, .int .i64 a0_2, .slice A0_3 l0_3.length c0_3, .int .i64 a0_4, .int .i64 a0_5, .int .i64 a0_6, .int .i64 a0_7, .int .i64 a0_8, .int .i64 a0_9, .int .i64 a0_10, .int .i64 a0_11, .int .i64 a0_12] 31 (0, 0)) (by (with_reducible repeat (first | refine blk_drewN ?_ _ | refine blk_drew ?_ | refine blk_alloc ?_ _)); exact BK325.out) hb); have n1_ := Aside0.mk (below_step (by repeat (first | (with_reducible first | exact HB.out | apply below_alloc | apply pw_below_drewN | apply below_drew1 | refine below_set ?_ GE325.out) | exact HB.out)) hb); clear BK325; clear HB; have BK325 := n0_; have HB := n1_; clear n0_ n1_; (try clear hb); (try clear hb2); (try clear hk); (try clear hi)))
            go_roundg k1
            case measure => have := HK1.out; omega
            case rel => exact ⟨(t327), (wrap64 (x4_1 + 1)), (by first | rfl | (simp; done) | (simp [*]; done)), (by first | rfl | (simp; done) | (simp [*]; done)), H', ⟨by have := HK1.out; omega⟩, ⟨by (with_reducible repeat (first | refine blk_drewN ?_ _ | refine blk_drew ?_ | refine blk_alloc ?_ _)); exact BK325.out⟩, ⟨by repeat (first | (with_reducible first | exact HB.out | apply below_alloc | apply pw_below_drewN | apply below_drew1 | refine below_set ?_ GE325.out) | exact HB.out)⟩⟩
          · rw [if_neg c6] at H
            have c6b0 : decide (x3_1 < t327) = false := decide_eq_false c6
            clear c6
            have H' := Aside0.mk H
            clear H
            have hcz9_0 : wr.cell? ⟨gb325, 0, none⟩ = some (.slice A0_0 l0_0.length c0_0) := (blk_cell BK325.out 0).trans rfl
            have hcz9_1 : wr.cell? ⟨gb325, 1, none⟩ = some (.int .i64 a0_1) := (blk_cell BK325.out 1).trans rfl
            have hcz9_2 : wr.cell? ⟨gb325, 2, none⟩ = some (.int .i64 a0_2) := (blk_cell BK325.out 2).trans rfl
            have hcz9_3 : wr.cell? ⟨gb325, 3, none⟩ = some (.slice A0_3 l0_3.length c0_3) := (blk_cell BK325.out 3).trans rfl
            have hcz9_4 : wr.cell? ⟨gb325, 4, none⟩ = some (.int .i64 a0_4) := (blk_cell BK325.out 4).trans rfl
            have hcz9_5 : wr.cell? ⟨gb325, 5, none⟩ = some (.int .i64 a0_5) := (blk_cell BK325.out 5).trans rfl
            have hcz9_6 : wr.cell? ⟨gb325, 6, none⟩ = some (.int .i64 a0_6) := (blk_cell BK325.out 6).trans rfl
            have hcz9_7 : wr.cell? ⟨gb325, 7, none⟩ = some (.int .i64 a0_7) := (blk_cell BK325.out 7).trans rfl
            have hcz9_8 : wr.cell? ⟨gb325, 8, none⟩ = some (.int .i64 a0_8) := (blk_cell BK325.out 8).trans rfl
            have hcz9_9 : wr.cell? ⟨gb325, 9, none⟩ = some (.int .i64 a0_9) := (blk_cell BK325.out 9).trans rfl
            have hcz9_10 : wr.cell? ⟨gb325, 10, none⟩ = some (.int .i64 a0_10) := (blk_cell BK325.out 10).trans rfl
            have hcz9_11 : wr.cell? ⟨gb325, 11, none⟩ = some (.int .i64 a0_11) := (blk_cell BK325.out 11).trans rfl
            have hcz9_12 : wr.cell? ⟨gb325, 12, none⟩ = some (.int .i64 a0_12) := (blk_cell BK325.out 12).trans rfl
            have hfz9_0 := blk_frozen BK325.out 0
            have hfz9_1 := blk_frozen BK325.out 1
            have hfz9_2 := blk_frozen BK325.out 2
            have hfz9_3 := blk_frozen BK325.out 3
            have hfz9_4 := blk_frozen BK325.out 4
            have hfz9_5 := blk_frozen BK325.out 5
            have hfz9_6 := blk_frozen BK325.out 6
            have hfz9_7 := blk_frozen BK325.out 7
            have hfz9_8 := blk_frozen BK325.out 8
            have hfz9_9 := blk_frozen BK325.out 9
            have hfz9_10 := blk_frozen BK325.out 10
            have hfz9_11 := blk_frozen BK325.out 11
            have hfz9_12 := blk_frozen BK325.out 12
            have p326 : 0 ≤ (x4_1 : Int) := of_decide_eq_true (by first | (with_reducible assumption) | assumption)
            have q326 : x4_1 < (l0_0.length : Int) := of_decide_eq_true (by first | (with_reducible assumption) | assumption)
            obtain ⟨ad326, e326, hx326_0, hx326_1, hx326_2, hx326_3, hx326_4, hx326_5, hx326_6⟩ := at_T69 HR0_0.out x4_1 p326 q326
            cases e326
            replace hx326_0 := (HB.out.cell (World.block_lt_of_cell? w _ hx326_0)).trans hx326_0
            replace hx326_1 := (HB.out.cell (World.block_lt_of_cell? w _ hx326_1)).trans hx326_1
            replace hx326_2 := (HB.out.cell (World.block_lt_of_cell? w _ hx326_2)).trans hx326_2
            replace hx326_3 := (HB.out.cell (World.block_lt_of_cell? w _ hx326_3)).trans hx326_3
            replace hx326_4 := (HB.out.cell (World.block_lt_of_cell? w _ hx326_4)).trans hx326_4
            replace hx326_5 := (HB.out.cell (World.block_lt_of_cell? w _ hx326_5)).trans hx326_5
            replace hx326_6 := (HB.out.cell (World.block_lt_of_cell? w _ hx326_6)).trans hx326_6
            replace p326 := eq_true p326
            replace q326 := eq_true q326
            go_wp2_with (first | ((with_reducible refine gate_callee (f := 39) rfl ?_); refine goesL_ (some 19) rfl rfl Try.func39 (by kernel_rfl) rfl #[.agg #[.int .i64 ((rd_T69 l0_0 x4_1).f1.f0), .int .i64 ((rd_T69 l0_0 x4_1).f1.f1), .int .i64 ((rd_T69 l0_0 x4_1).f1.f2), .int .i64 ((rd_T69 l0_0 x4_1).f1.f3), .int .i64 ((rd_T69 l0_0 x4_1).f1.f4), .int .i64 ((rd_T69 l0_0 x4_1).f1.f5)]] rfl (by (try simp only [List.map_toArray, List.map_cons, List.map_nil]); first | done | rfl | (simp only [List.length_drop, List.length_take]; rfl)) ?_; (with_reducible refine (paternosterref04_Most.calls k1 ((rd_T69 l0_0 x4_1).f1.f0) ((rd_T69 l0_0 x4_1).f1.f1) ((rd_T69 l0_0 x4_1).f1.f2) ((rd_T69 l0_0 x4_1).f1.f3) ((rd_T69 l0_0 x4_1).f1.f4) ((rd_T69 l0_0 x4_1).f1.f5) t327 _ A5.out).mono ?_); rintro e w10 ⟨rfl, hb⟩; refine ⟨_, rfl, ?_⟩; have n0_ := Aside0.mk (blk_below (g := gb325) (o := .cells #[.slice (some ad326) l0_0.length c0_0, .int .i64 a0_1, .int .i64 a0_2, .slice A0_3 l0_3.length c0_3, .int .i64 a0_4, .int .i64 a0_5, .int .i64 a0_6, .int .i64 a0_7, .int .i64 a0_8, .int .i64 a0_9, .int .i64 a0_10, .int .i64 a0_11, .int .i64 a0_12] 31 (0, 0)) (by (with_reducible repeat (first | refine blk_drewN ?_ _ | refine blk_drew ?_ | refine blk_alloc ?_ _)); exact BK325.out) hb); have n1_ := Aside0.mk (below_step (by repeat (first | (with_reducible first | exact HB.out | apply below_alloc | apply pw_below_drewN | apply below_drew1 | refine below_set ?_ GE325.out) | exact HB.out)) hb); clear BK325; clear HB; have BK325 := n0_; have HB := n1_; clear n0_ n1_; (try clear hb); (try clear hb2); (try clear hk); (try clear hi)))
            go_roundg k1
            case measure => have := HK1.out; omega
            case rel => exact ⟨(x3_1), (wrap64 (x4_1 + 1)), (by first | rfl | (simp; done) | (simp [*]; done)), (by first | rfl | (simp; done) | (simp [*]; done)), H', ⟨by have := HK1.out; omega⟩, ⟨by (with_reducible repeat (first | refine blk_drewN ?_ _ | refine blk_drew ?_ | refine blk_alloc ?_ _)); exact BK325.out⟩, ⟨by repeat (first | (with_reducible first | exact HB.out | apply below_alloc | apply pw_below_drewN | apply below_drew1 | refine below_set ?_ GE325.out) | exact HB.out)⟩⟩
        · rw [if_neg c4] at H
          exact absurd H (by simp)
      · rw [if_neg c3] at H
        have c3b0 : decide (x4_1 < (l0_0.length : Int)) = false := decide_eq_false c3
        clear c3
        obtain rfl := Option.some.inj H
        have hcz11_0 : wr.cell? ⟨gb325, 0, none⟩ = some (.slice A0_0 l0_0.length c0_0) := (blk_cell BK325.out 0).trans rfl
        have hcz11_1 : wr.cell? ⟨gb325, 1, none⟩ = some (.int .i64 a0_1) := (blk_cell BK325.out 1).trans rfl
        have hcz11_2 : wr.cell? ⟨gb325, 2, none⟩ = some (.int .i64 a0_2) := (blk_cell BK325.out 2).trans rfl
        have hcz11_3 : wr.cell? ⟨gb325, 3, none⟩ = some (.slice A0_3 l0_3.length c0_3) := (blk_cell BK325.out 3).trans rfl
        have hcz11_4 : wr.cell? ⟨gb325, 4, none⟩ = some (.int .i64 a0_4) := (blk_cell BK325.out 4).trans rfl
        have hcz11_5 : wr.cell? ⟨gb325, 5, none⟩ = some (.int .i64 a0_5) := (blk_cell BK325.out 5).trans rfl
        have hcz11_6 : wr.cell? ⟨gb325, 6, none⟩ = some (.int .i64 a0_6) := (blk_cell BK325.out 6).trans rfl
        have hcz11_7 : wr.cell? ⟨gb325, 7, none⟩ = some (.int .i64 a0_7) := (blk_cell BK325.out 7).trans rfl
        have hcz11_8 : wr.cell? ⟨gb325, 8, none⟩ = some (.int .i64 a0_8) := (blk_cell BK325.out 8).trans rfl
        have hcz11_9 : wr.cell? ⟨gb325, 9, none⟩ = some (.int .i64 a0_9) := (blk_cell BK325.out 9).trans rfl
        have hcz11_10 : wr.cell? ⟨gb325, 10, none⟩ = some (.int .i64 a0_10) := (blk_cell BK325.out 10).trans rfl
        have hcz11_11 : wr.cell? ⟨gb325, 11, none⟩ = some (.int .i64 a0_11) := (blk_cell BK325.out 11).trans rfl
        have hcz11_12 : wr.cell? ⟨gb325, 12, none⟩ = some (.int .i64 a0_12) := (blk_cell BK325.out 12).trans rfl
        have hfz11_0 := blk_frozen BK325.out 0
        have hfz11_1 := blk_frozen BK325.out 1
        have hfz11_2 := blk_frozen BK325.out 2
        have hfz11_3 := blk_frozen BK325.out 3
        have hfz11_4 := blk_frozen BK325.out 4
        have hfz11_5 := blk_frozen BK325.out 5
        have hfz11_6 := blk_frozen BK325.out 6
        have hfz11_7 := blk_frozen BK325.out 7
        have hfz11_8 := blk_frozen BK325.out 8
        have hfz11_9 := blk_frozen BK325.out 9
        have hfz11_10 := blk_frozen BK325.out 10
        have hfz11_11 := blk_frozen BK325.out 11
        have hfz11_12 := blk_frozen BK325.out 12
        go_wp2
        go_ret
        exact ⟨by first | rfl | (simp [errW_none, errW_some] <;> rfl) | (simp [*, errW_none, errW_some] <;> rfl), by repeat (first | (with_reducible first | exact HB.out | apply below_alloc | apply pw_below_drewN | apply below_drew1 | refine below_set ?_ GE325.out) | exact HB.out)⟩

end Go.Proofs.Ytomaojmccchibaa.X
