-- Written by a program of this session (wip/xprint/xprint.py runs the kit's print with hand-proved externs).
import Derived.Test.YtomaojmccchibaaXx0
import Derived.Test.YtomaojmccchibaaXx6
namespace Go.Proofs.Ytomaojmccchibaa.X
open Go.RowKit Go.Proofs.YtomaojmccchibaaW.PrintWords Go.Proofs.YtomaojmccchibaaW.PrintLast Go.Proofs.YtomaojmccchibaaW.PrintMore
attribute [local go_sem] max2_int min2_int max_two min_two max_three min_three max_four min_four   -- for this text's walks alone
set_option linter.unusedVariables false
set_option linter.unusedSimpArgs false

/-! ### paternosterref05_Cars: function 42 -/
def paternosterref05_Cars.l0 : Nat → Int → Int → List (S69) → Int → Int → List Int → Int → Int → Int → Int → Int → Int → Int → Int → Int → Option (Int)
  | 0, _, _, _, _, _, _, _, _, _, _, _, _, _, _, _ => none
  | k + 1, x3, x4, x305000, x305001, x305002, x305003, x305004, x305005, x305006, x305007, x305008, x305009, x305010, x305011, x305012 => if x4 < (x305000.length : Int) then (if 0 ≤ x4 then (paternosterref05_Cars.l0 k (wrap64 (x3 + ((rd_T69 x305000 x4).f0))) (wrap64 (x4 + 1)) x305000 x305001 x305002 x305003 x305004 x305005 x305006 x305007 x305008 x305009 x305010 x305011 x305012) else (none)) else (some x3)
def paternosterref05_Cars.f (k : Nat) (l0_0 : List (S69)) (a0_1 : Int) (a0_2 : Int) (l0_3 : List Int) (a0_4 : Int) (a0_5 : Int) (a0_6 : Int) (a0_7 : Int) (a0_8 : Int) (a0_9 : Int) (a0_10 : Int) (a0_11 : Int) (a0_12 : Int) : Option (Int) := paternosterref05_Cars.l0 k 0 0 l0_0 a0_1 a0_2 l0_3 a0_4 a0_5 a0_6 a0_7 a0_8 a0_9 a0_10 a0_11 a0_12
theorem paternosterref05_Cars.mono_l : ∀ k, (∀ y0 y1 y2 y3 y4 y5 y6 y7 y8 y9 y10 y11 y12 y13 y14, LeO (paternosterref05_Cars.l0 k y0 y1 y2 y3 y4 y5 y6 y7 y8 y9 y10 y11 y12 y13 y14) (paternosterref05_Cars.l0 (k + 1) y0 y1 y2 y3 y4 y5 y6 y7 y8 y9 y10 y11 y12 y13 y14))
  | 0 => fun _ _ _ _ _ _ _ _ _ _ _ _ _ _ _ r h => by simp [paternosterref05_Cars.l0] at h
  | k + 1 => by
    have ih0 := paternosterref05_Cars.mono_l k
    · intro y0 y1 y2 y3 y4 y5 y6 y7 y8 y9 y10 y11 y12 y13 y14
      unfold paternosterref05_Cars.l0
      repeat' first
      | (with_reducible exact ih0 _ _ _ _ _ _ _ _ _ _ _ _ _ _ _)
      | (with_reducible exact LeO.refl _)
      | (with_reducible exact LeO.none _)
      | (with_reducible refine LeO.ite ?_ ?_)
      | (with_reducible refine LeO.bind ?_ (fun _ => ?_))
      | exact ih0 _ _ _ _ _ _ _ _ _ _ _ _ _ _ _
      | exact LeO.none _
      | refine LeO.ite ?_ ?_
      | refine LeO.bind ?_ (fun _ => ?_)
theorem paternosterref05_Cars.mono : ∀ a0 a1 a2 a3 a4 a5 a6 a7 a8 a9 a10 a11 a12 k, LeO (paternosterref05_Cars.f k a0 a1 a2 a3 a4 a5 a6 a7 a8 a9 a10 a11 a12) (paternosterref05_Cars.f (k + 1) a0 a1 a2 a3 a4 a5 a6 a7 a8 a9 a10 a11 a12) := by
  intro a0 a1 a2 a3 a4 a5 a6 a7 a8 a9 a10 a11 a12 k
  have ih0 := paternosterref05_Cars.mono_l k
  unfold paternosterref05_Cars.f
  repeat' first
      | (with_reducible exact ih0 _ _ _ _ _ _ _ _ _ _ _ _ _ _ _)
      | (with_reducible exact LeO.refl _)
      | (with_reducible exact LeO.none _)
      | (with_reducible refine LeO.ite ?_ ?_)
      | (with_reducible refine LeO.bind ?_ (fun _ => ?_))
      | exact ih0 _ _ _ _ _ _ _ _ _ _ _ _ _ _ _
      | exact LeO.none _
      | refine LeO.ite ?_ ?_
      | refine LeO.bind ?_ (fun _ => ?_)
set_option maxHeartbeats 8000000 in
set_option maxRecDepth 100000 in
theorem paternosterref05_Cars.calls (k : Nat) (A0_0 : Option Addr) (c0_0 : Nat) (l0_0 : List (S69)) (a0_1 : Int) (a0_2 : Int) (A0_3 : Option Addr) (c0_3 : Nat) (l0_3 : List Int) (a0_4 : Int) (a0_5 : Int) (a0_6 : Int) (a0_7 : Int) (a0_8 : Int) (a0_9 : Int) (a0_10 : Int) (a0_11 : Int) (a0_12 : Int) (r : Int) (w : World) (hr0_0 : Kd.C k69 w A0_0 l0_0.length l0_0) (hc0_0 : l0_0.length ≤ c0_0) (hr0_3 : Kd.C (Kd.int .i64) w A0_3 l0_3.length l0_3) (hc0_3 : l0_3.length ≤ c0_3) (h : paternosterref05_Cars.f k l0_0 a0_1 a0_2 l0_3 a0_4 a0_5 a0_6 a0_7 a0_8 a0_9 a0_10 a0_11 a0_12 = some r) :
    Calls Try.prog 42 #[.agg #[.slice A0_0 l0_0.length c0_0, .int .i64 a0_1, .int .i64 a0_2, .slice A0_3 l0_3.length c0_3, .int .i64 a0_4, .int .i64 a0_5, .int .i64 a0_6, .int .i64 a0_7, .int .i64 a0_8, .int .i64 a0_9, .int .i64 a0_10, .int .i64 a0_11, .int .i64 a0_12]] w fun e w' => e = .returned (.int .i64 r) ∧ Below w.heap.size w w' := by
  have hu31 := Try.underlying31
  have HR0_0 := Aside0.mk hr0_0
  have HC0_0 := Aside0.mk hc0_0
  clear hr0_0 hc0_0
  have HR0_3 := Aside0.mk hr0_3
  have HC0_3 := Aside0.mk hc0_3
  clear hr0_3 hc0_3
  have HB := Aside0.mk (Below.refl w.heap.size w)
  have H : (paternosterref05_Cars.l0 k 0 0 l0_0 a0_1 a0_2 l0_3 a0_4 a0_5 a0_6 a0_7 a0_8 a0_9 a0_10 a0_11 a0_12) = some r := h
  clear h
  have H' := Aside0.mk H
  clear H
  go_enter Try.func42, Try.ntmps42
  go_wp2_with (first | ((with_reducible refine gate_dst (N := 1) rfl ?_); refine box_event ?hg (N := 1) ?hd (cs := #[.slice A0_0 l0_0.length c0_0, .int .i64 a0_1, .int .i64 a0_2, .slice A0_3 l0_3.length c0_3, .int .i64 a0_4, .int .i64 a0_5, .int .i64 a0_6, .int .i64 a0_7, .int .i64 a0_8, .int .i64 a0_9, .int .i64 a0_10, .int .i64 a0_11, .int .i64 a0_12]) (t := 31) ?hr ?_; (case hd => rfl); (case hg => rfl); (case hr => first | (go_simp; done) | (go_simp; rfl)); intro gb304 hg w2 hbox hb; have n0_ := Aside0.mk (below_step (by repeat (first | (with_reducible first | exact HB.out | apply below_alloc | apply pw_below_drewN | apply below_drew1) | exact HB.out)) hb); have n1_ := Aside0.mk (hbox); have n2_ := Aside0.mk ((by rw [hg]; exact (below_size (by repeat (first | (with_reducible first | exact HB.out | apply below_alloc | apply pw_below_drewN | apply below_drew1) | exact HB.out))) : w.heap.size ≤ gb304)); have n3_ := Aside0.mk ((by rw [hg]; exact (below_size (by repeat (first | (with_reducible first | exact HB.out | apply below_alloc | apply pw_below_drewN | apply below_drew1) | exact HB.out))) : w.heap.size ≤ gb304)); clear HB; have HB := n0_; have BK304 := n1_; have GW304 := n2_; have GE304 := n3_; clear n0_ n1_ n2_ n3_; clear hb hbox hg))
  go_loopg [3, 4] k (fun kq v3 v4 w' => ∃ (x3_1 : Int) (x4_1 : Int), v3 = .int .i64 x3_1 ∧ v4 = .int .i64 x4_1 ∧ Aside0 (paternosterref05_Cars.l0 kq x3_1 x4_1 l0_0 a0_1 a0_2 l0_3 a0_4 a0_5 a0_6 a0_7 a0_8 a0_9 a0_10 a0_11 a0_12 = some r) ∧ Aside0 (kq ≤ k) ∧ Aside0 (w'.heap[gb304]? = some (.cells #[(.slice A0_0 l0_0.length c0_0), .int .i64 a0_1, .int .i64 a0_2, (.slice A0_3 l0_3.length c0_3), .int .i64 a0_4, .int .i64 a0_5, .int .i64 a0_6, .int .i64 a0_7, .int .i64 a0_8, .int .i64 a0_9, .int .i64 a0_10, .int .i64 a0_11, .int .i64 a0_12] 31 (0, 0))) ∧ Aside0 (Below w.heap.size w w'))
  case atStart => exact ⟨(0), (0), (by first | rfl | (simp; done) | (simp [*]; done)), (by first | rfl | (simp; done) | (simp [*]; done)), H', ⟨Nat.le_refl _⟩, ⟨by (with_reducible repeat (first | refine blk_drewN ?_ _ | refine blk_drew ?_ | refine blk_alloc ?_ _)); exact BK304.out⟩, ⟨by repeat (first | (with_reducible first | exact HB.out | apply below_alloc | apply pw_below_drewN | apply below_drew1 | refine below_set ?_ GE304.out) | exact HB.out)⟩⟩
  case round =>
    clear H'
    try clear p2
    obtain ⟨x3_1, x4_1, rfl, rfl, HA, HK1, BK304, HB⟩ := hrel
    cases gk with
    | zero => exact absurd HA.out (by simp [paternosterref05_Cars.l0])
    | succ k1 =>
      have H := HA.out
      clear HA
      simp only [paternosterref05_Cars.l0] at H
      by_cases c3 : x4_1 < (l0_0.length : Int)
      · rw [if_pos c3] at H
        have c3b0 : decide (x4_1 < (l0_0.length : Int)) = true := decide_eq_true c3
        clear c3
        by_cases c4 : 0 ≤ x4_1
        · rw [if_pos c4] at H
          have c4b0 : decide (0 ≤ x4_1) = true := decide_eq_true c4
          clear c4
          have H' := Aside0.mk H
          clear H
          have hcz5_0 : wr.cell? ⟨gb304, 0, none⟩ = some (.slice A0_0 l0_0.length c0_0) := (blk_cell BK304.out 0).trans rfl
          have hcz5_1 : wr.cell? ⟨gb304, 1, none⟩ = some (.int .i64 a0_1) := (blk_cell BK304.out 1).trans rfl
          have hcz5_2 : wr.cell? ⟨gb304, 2, none⟩ = some (.int .i64 a0_2) := (blk_cell BK304.out 2).trans rfl
          have hcz5_3 : wr.cell? ⟨gb304, 3, none⟩ = some (.slice A0_3 l0_3.length c0_3) := (blk_cell BK304.out 3).trans rfl
          have hcz5_4 : wr.cell? ⟨gb304, 4, none⟩ = some (.int .i64 a0_4) := (blk_cell BK304.out 4).trans rfl
          have hcz5_5 : wr.cell? ⟨gb304, 5, none⟩ = some (.int .i64 a0_5) := (blk_cell BK304.out 5).trans rfl
          have hcz5_6 : wr.cell? ⟨gb304, 6, none⟩ = some (.int .i64 a0_6) := (blk_cell BK304.out 6).trans rfl
          have hcz5_7 : wr.cell? ⟨gb304, 7, none⟩ = some (.int .i64 a0_7) := (blk_cell BK304.out 7).trans rfl
          have hcz5_8 : wr.cell? ⟨gb304, 8, none⟩ = some (.int .i64 a0_8) := (blk_cell BK304.out 8).trans rfl
          have hcz5_9 : wr.cell? ⟨gb304, 9, none⟩ = some (.int .i64 a0_9) := (blk_cell BK304.out 9).trans rfl
          have hcz5_10 : wr.cell? ⟨gb304, 10, none⟩ = some (.int .i64 a0_10) := (blk_cell BK304.out 10).trans rfl
          have hcz5_11 : wr.cell? ⟨gb304, 11, none⟩ = some (.int .i64 a0_11) := (blk_cell BK304.out 11).trans rfl
          have hcz5_12 : wr.cell? ⟨gb304, 12, none⟩ = some (.int .i64 a0_12) := (blk_cell BK304.out 12).trans rfl
          have hfz5_0 := blk_frozen BK304.out 0
          have hfz5_1 := blk_frozen BK304.out 1
          have hfz5_2 := blk_frozen BK304.out 2
          have hfz5_3 := blk_frozen BK304.out 3
          have hfz5_4 := blk_frozen BK304.out 4
          have hfz5_5 := blk_frozen BK304.out 5
          have hfz5_6 := blk_frozen BK304.out 6
          have hfz5_7 := blk_frozen BK304.out 7
          have hfz5_8 := blk_frozen BK304.out 8
          have hfz5_9 := blk_frozen BK304.out 9
          have hfz5_10 := blk_frozen BK304.out 10
          have hfz5_11 := blk_frozen BK304.out 11
          have hfz5_12 := blk_frozen BK304.out 12
          have p305 : 0 ≤ (x4_1 : Int) := of_decide_eq_true (by first | (with_reducible assumption) | assumption)
          have q305 : x4_1 < (l0_0.length : Int) := of_decide_eq_true (by first | (with_reducible assumption) | assumption)
          obtain ⟨ad305, e305, hx305_0, hx305_1, hx305_2, hx305_3, hx305_4, hx305_5, hx305_6⟩ := at_T69 HR0_0.out x4_1 p305 q305
          cases e305
          replace hx305_0 := (HB.out.cell (World.block_lt_of_cell? w _ hx305_0)).trans hx305_0
          replace hx305_1 := (HB.out.cell (World.block_lt_of_cell? w _ hx305_1)).trans hx305_1
          replace hx305_2 := (HB.out.cell (World.block_lt_of_cell? w _ hx305_2)).trans hx305_2
          replace hx305_3 := (HB.out.cell (World.block_lt_of_cell? w _ hx305_3)).trans hx305_3
          replace hx305_4 := (HB.out.cell (World.block_lt_of_cell? w _ hx305_4)).trans hx305_4
          replace hx305_5 := (HB.out.cell (World.block_lt_of_cell? w _ hx305_5)).trans hx305_5
          replace hx305_6 := (HB.out.cell (World.block_lt_of_cell? w _ hx305_6)).trans hx305_6
          replace p305 := eq_true p305
          replace q305 := eq_true q305
          go_wp2
          go_roundg k1
          case measure => have := HK1.out; omega
          case rel => exact ⟨(wrap64 (x3_1 + ((rd_T69 l0_0 x4_1).f0))), (wrap64 (x4_1 + 1)), (by first | rfl | (simp; done) | (simp [*]; done)), (by first | rfl | (simp; done) | (simp [*]; done)), H', ⟨by have := HK1.out; omega⟩, ⟨by (with_reducible repeat (first | refine blk_drewN ?_ _ | refine blk_drew ?_ | refine blk_alloc ?_ _)); exact BK304.out⟩, ⟨by repeat (first | (with_reducible first | exact HB.out | apply below_alloc | apply pw_below_drewN | apply below_drew1 | refine below_set ?_ GE304.out) | exact HB.out)⟩⟩
        · rw [if_neg c4] at H
          exact absurd H (by simp)
      · rw [if_neg c3] at H
        have c3b0 : decide (x4_1 < (l0_0.length : Int)) = false := decide_eq_false c3
        clear c3
        obtain rfl := Option.some.inj H
        have hcz6_0 : wr.cell? ⟨gb304, 0, none⟩ = some (.slice A0_0 l0_0.length c0_0) := (blk_cell BK304.out 0).trans rfl
        have hcz6_1 : wr.cell? ⟨gb304, 1, none⟩ = some (.int .i64 a0_1) := (blk_cell BK304.out 1).trans rfl
        have hcz6_2 : wr.cell? ⟨gb304, 2, none⟩ = some (.int .i64 a0_2) := (blk_cell BK304.out 2).trans rfl
        have hcz6_3 : wr.cell? ⟨gb304, 3, none⟩ = some (.slice A0_3 l0_3.length c0_3) := (blk_cell BK304.out 3).trans rfl
        have hcz6_4 : wr.cell? ⟨gb304, 4, none⟩ = some (.int .i64 a0_4) := (blk_cell BK304.out 4).trans rfl
        have hcz6_5 : wr.cell? ⟨gb304, 5, none⟩ = some (.int .i64 a0_5) := (blk_cell BK304.out 5).trans rfl
        have hcz6_6 : wr.cell? ⟨gb304, 6, none⟩ = some (.int .i64 a0_6) := (blk_cell BK304.out 6).trans rfl
        have hcz6_7 : wr.cell? ⟨gb304, 7, none⟩ = some (.int .i64 a0_7) := (blk_cell BK304.out 7).trans rfl
        have hcz6_8 : wr.cell? ⟨gb304, 8, none⟩ = some (.int .i64 a0_8) := (blk_cell BK304.out 8).trans rfl
        have hcz6_9 : wr.cell? ⟨gb304, 9, none⟩ = some (.int .i64 a0_9) := (blk_cell BK304.out 9).trans rfl
        have hcz6_10 : wr.cell? ⟨gb304, 10, none⟩ = some (.int .i64 a0_10) := (blk_cell BK304.out 10).trans rfl
        have hcz6_11 : wr.cell? ⟨gb304, 11, none⟩ = some (.int .i64 a0_11) := (blk_cell BK304.out 11).trans rfl
        have hcz6_12 : wr.cell? ⟨gb304, 12, none⟩ = some (.int .i64 a0_12) := (blk_cell BK304.out 12).trans rfl
        have hfz6_0 := blk_frozen BK304.out 0
        have hfz6_1 := blk_frozen BK304.out 1
        have hfz6_2 := blk_frozen BK304.out 2
        have hfz6_3 := blk_frozen BK304.out 3
        have hfz6_4 := blk_frozen BK304.out 4
        have hfz6_5 := blk_frozen BK304.out 5
        have hfz6_6 := blk_frozen BK304.out 6
        have hfz6_7 := blk_frozen BK304.out 7
        have hfz6_8 := blk_frozen BK304.out 8
        have hfz6_9 := blk_frozen BK304.out 9
        have hfz6_10 := blk_frozen BK304.out 10
        have hfz6_11 := blk_frozen BK304.out 11
        have hfz6_12 := blk_frozen BK304.out 12
        go_wp2
        go_ret
        exact ⟨by first | rfl | (simp [errW_none, errW_some] <;> rfl) | (simp [*, errW_none, errW_some] <;> rfl), by repeat (first | (with_reducible first | exact HB.out | apply below_alloc | apply pw_below_drewN | apply below_drew1 | refine below_set ?_ GE304.out) | exact HB.out)⟩

/-! ### paternosterref04_Peak: function 38 -/
def paternosterref04_Peak.l0 : Nat → Int → Int → Int → Int → Int → Int → Int → Int → Int → Int → Option (Int)
  | 0, _, _, _, _, _, _, _, _, _, _ => none
  | k + 1, x1, x2, x7, x8, x307000, x307001, x307002, x307003, x307004, x307005 => if x8 < 5 then ((paternosterref04_Draw.f k x307000 x307001 x307002 x307003 x307004 x307005 x8 x1 x2).bind fun t307 => (if t307 > x7 then (paternosterref04_Peak.l0 k x1 x2 t307 (wrap64 (x8 + 1)) x307000 x307001 x307002 x307003 x307004 x307005) else (paternosterref04_Peak.l0 k x1 x2 x7 (wrap64 (x8 + 1)) x307000 x307001 x307002 x307003 x307004 x307005))) else (some x7)
def paternosterref04_Peak.f (k : Nat) (a0_0 : Int) (a0_1 : Int) (a0_2 : Int) (a0_3 : Int) (a0_4 : Int) (a0_5 : Int) (a1 : Int) (a2 : Int) : Option (Int) := paternosterref04_Peak.l0 k a1 a2 0 1 a0_0 a0_1 a0_2 a0_3 a0_4 a0_5
theorem paternosterref04_Peak.mono_l : ∀ k, (∀ y0 y1 y2 y3 y4 y5 y6 y7 y8 y9, LeO (paternosterref04_Peak.l0 k y0 y1 y2 y3 y4 y5 y6 y7 y8 y9) (paternosterref04_Peak.l0 (k + 1) y0 y1 y2 y3 y4 y5 y6 y7 y8 y9))
  | 0 => fun _ _ _ _ _ _ _ _ _ _ r h => by simp [paternosterref04_Peak.l0] at h
  | k + 1 => by
    have ih0 := paternosterref04_Peak.mono_l k
    · intro y0 y1 y2 y3 y4 y5 y6 y7 y8 y9
      unfold paternosterref04_Peak.l0
      repeat' first
      | (with_reducible exact ih0 _ _ _ _ _ _ _ _ _ _)
      | (with_reducible exact paternosterref04_Draw.mono _ _ _ _ _ _ _ _ _ _)
      | (with_reducible exact LeO.refl _)
      | (with_reducible exact LeO.none _)
      | (with_reducible refine LeO.ite ?_ ?_)
      | (with_reducible refine LeO.bind ?_ (fun _ => ?_))
      | exact ih0 _ _ _ _ _ _ _ _ _ _
      | exact paternosterref04_Draw.mono _ _ _ _ _ _ _ _ _ _
      | exact LeO.none _
      | refine LeO.ite ?_ ?_
      | refine LeO.bind ?_ (fun _ => ?_)
theorem paternosterref04_Peak.mono : ∀ a0 a1 a2 a3 a4 a5 a6 a7 k, LeO (paternosterref04_Peak.f k a0 a1 a2 a3 a4 a5 a6 a7) (paternosterref04_Peak.f (k + 1) a0 a1 a2 a3 a4 a5 a6 a7) := by
  intro a0 a1 a2 a3 a4 a5 a6 a7 k
  have ih0 := paternosterref04_Peak.mono_l k
  unfold paternosterref04_Peak.f
  repeat' first
      | (with_reducible exact ih0 _ _ _ _ _ _ _ _ _ _)
      | (with_reducible exact paternosterref04_Draw.mono _ _ _ _ _ _ _ _ _ _)
      | (with_reducible exact LeO.refl _)
      | (with_reducible exact LeO.none _)
      | (with_reducible refine LeO.ite ?_ ?_)
      | (with_reducible refine LeO.bind ?_ (fun _ => ?_))
      | exact ih0 _ _ _ _ _ _ _ _ _ _
      | exact paternosterref04_Draw.mono _ _ _ _ _ _ _ _ _ _
      | exact LeO.none _
      | refine LeO.ite ?_ ?_
      | refine LeO.bind ?_ (fun _ => ?_)
set_option maxHeartbeats 8000000 in
set_option maxRecDepth 100000 in
theorem paternosterref04_Peak.calls (k : Nat) (a0_0 : Int) (a0_1 : Int) (a0_2 : Int) (a0_3 : Int) (a0_4 : Int) (a0_5 : Int) (a1 : Int) (a2 : Int) (r : Int) (w : World) (h : paternosterref04_Peak.f k a0_0 a0_1 a0_2 a0_3 a0_4 a0_5 a1 a2 = some r) :
    Calls Try.prog 38 #[.agg #[.int .i64 a0_0, .int .i64 a0_1, .int .i64 a0_2, .int .i64 a0_3, .int .i64 a0_4, .int .i64 a0_5], .int .i64 a1, .int .i64 a2] w fun e w' => e = .returned (.int .i64 r) ∧ Below w.heap.size w w' := by
  have hu45 := Try.underlying45
  have HB := Aside0.mk (Below.refl w.heap.size w)
  have H : (paternosterref04_Peak.l0 k a1 a2 0 1 a0_0 a0_1 a0_2 a0_3 a0_4 a0_5) = some r := h
  clear h
  have H' := Aside0.mk H
  clear H
  go_enter Try.func38, Try.ntmps38
  go_wp2_with (first | ((with_reducible refine gate_dst (N := 3) rfl ?_); refine box_event ?hg (N := 3) ?hd (cs := #[.int .i64 a0_0, .int .i64 a0_1, .int .i64 a0_2, .int .i64 a0_3, .int .i64 a0_4, .int .i64 a0_5]) (t := 45) ?hr ?_; (case hd => rfl); (case hg => rfl); (case hr => first | (go_simp; done) | (go_simp; rfl)); intro gb306 hg w4 hbox hb; have n0_ := Aside0.mk (below_step (by repeat (first | (with_reducible first | exact HB.out | apply below_alloc | apply pw_below_drewN | apply below_drew1) | exact HB.out)) hb); have n1_ := Aside0.mk (hbox); have n2_ := Aside0.mk ((by rw [hg]; exact (below_size (by repeat (first | (with_reducible first | exact HB.out | apply below_alloc | apply pw_below_drewN | apply below_drew1) | exact HB.out))) : w.heap.size ≤ gb306)); have n3_ := Aside0.mk ((by rw [hg]; exact (below_size (by repeat (first | (with_reducible first | exact HB.out | apply below_alloc | apply pw_below_drewN | apply below_drew1) | exact HB.out))) : w.heap.size ≤ gb306)); clear HB; have HB := n0_; have BK306 := n1_; have GW306 := n2_; have GE306 := n3_; clear n0_ n1_ n2_ n3_; clear hb hbox hg))
  go_loopg [7, 8] k (fun kq v7 v8 w' => ∃ (x7_1 : Int) (x8_1 : Int), v7 = .int .i64 x7_1 ∧ v8 = .int .i64 x8_1 ∧ Aside0 (paternosterref04_Peak.l0 kq a1 a2 x7_1 x8_1 a0_0 a0_1 a0_2 a0_3 a0_4 a0_5 = some r) ∧ Aside0 (kq ≤ k) ∧ Aside0 (w'.heap[gb306]? = some (.cells #[.int .i64 a0_0, .int .i64 a0_1, .int .i64 a0_2, .int .i64 a0_3, .int .i64 a0_4, .int .i64 a0_5] 45 (0, 0))) ∧ Aside0 (Below w.heap.size w w'))
  case atStart => exact ⟨(0), (1), (by first | rfl | (simp; done) | (simp [*]; done)), (by first | rfl | (simp; done) | (simp [*]; done)), H', ⟨Nat.le_refl _⟩, ⟨by (with_reducible repeat (first | refine blk_drewN ?_ _ | refine blk_drew ?_ | refine blk_alloc ?_ _)); exact BK306.out⟩, ⟨by repeat (first | (with_reducible first | exact HB.out | apply below_alloc | apply pw_below_drewN | apply below_drew1 | refine below_set ?_ GE306.out) | exact HB.out)⟩⟩
  case round =>
    clear H'
    try clear p2
    try clear c3
    obtain ⟨x7_1, x8_1, rfl, rfl, HA, HK1, BK306, HB⟩ := hrel
    cases gk with
    | zero => exact absurd HA.out (by simp [paternosterref04_Peak.l0])
    | succ k1 =>
      have H := HA.out
      clear HA
      simp only [paternosterref04_Peak.l0] at H
      by_cases c5 : x8_1 < 5
      · rw [if_pos c5] at H
        have c5b0 : decide (x8_1 < 5) = true := decide_eq_true c5
        clear c5
        replace H := Option.bind_eq_some_iff.mp H
        obtain ⟨t307, A60, H⟩ := H
        replace H : (if t307 > x7_1 then (paternosterref04_Peak.l0 k1 a1 a2 t307 (wrap64 (x8_1 + 1)) a0_0 a0_1 a0_2 a0_3 a0_4 a0_5) else (paternosterref04_Peak.l0 k1 a1 a2 x7_1 (wrap64 (x8_1 + 1)) a0_0 a0_1 a0_2 a0_3 a0_4 a0_5)) = some r := H
        have A6 := Aside0.mk A60
        clear A60
        by_cases c7 : t307 > x7_1
        · rw [if_pos c7] at H
          have c7b0 : decide (x7_1 < t307) = true := decide_eq_true c7
          clear c7
          have H' := Aside0.mk H
          clear H
          have hcz8_0 : wr.cell? ⟨gb306, 0, none⟩ = some (.int .i64 a0_0) := (blk_cell BK306.out 0).trans rfl
          have hcz8_1 : wr.cell? ⟨gb306, 1, none⟩ = some (.int .i64 a0_1) := (blk_cell BK306.out 1).trans rfl
          have hcz8_2 : wr.cell? ⟨gb306, 2, none⟩ = some (.int .i64 a0_2) := (blk_cell BK306.out 2).trans rfl
          have hcz8_3 : wr.cell? ⟨gb306, 3, none⟩ = some (.int .i64 a0_3) := (blk_cell BK306.out 3).trans rfl
          have hcz8_4 : wr.cell? ⟨gb306, 4, none⟩ = some (.int .i64 a0_4) := (blk_cell BK306.out 4).trans rfl
          have hcz8_5 : wr.cell? ⟨gb306, 5, none⟩ = some (.int .i64 a0_5) := (blk_cell BK306.out 5).trans rfl
          have hfz8_0 := blk_frozen BK306.out 0
          have hfz8_1 := blk_frozen BK306.out 1
          have hfz8_2 := blk_frozen BK306.out 2
          have hfz8_3 := blk_frozen BK306.out 3
          have hfz8_4 := blk_frozen BK306.out 4
          have hfz8_5 := blk_frozen BK306.out 5
          go_wp2_with (first | ((with_reducible refine gate_callee (f := 30) rfl ?_); refine goesL_ (some 18) rfl rfl Try.func30 (by kernel_rfl) rfl #[.agg #[.int .i64 a0_0, .int .i64 a0_1, .int .i64 a0_2, .int .i64 a0_3, .int .i64 a0_4, .int .i64 a0_5], .int .i64 x8_1, .int .i64 a1, .int .i64 a2] rfl (by (try simp only [List.map_toArray, List.map_cons, List.map_nil]); first | done | rfl | (simp only [List.length_drop, List.length_take]; rfl)) ?_; (with_reducible refine (paternosterref04_Draw.calls k1 a0_0 a0_1 a0_2 a0_3 a0_4 a0_5 x8_1 a1 a2 t307 _ A6.out).mono ?_); rintro e w9 ⟨rfl, hb⟩; refine ⟨_, rfl, ?_⟩; have n0_ := Aside0.mk (blk_below (g := gb306) (o := .cells #[.int .i64 a0_0, .int .i64 a0_1, .int .i64 a0_2, .int .i64 a0_3, .int .i64 a0_4, .int .i64 a0_5] 45 (0, 0)) (by (with_reducible repeat (first | refine blk_drewN ?_ _ | refine blk_drew ?_ | refine blk_alloc ?_ _)); exact BK306.out) hb); have n1_ := Aside0.mk (below_step (by repeat (first | (with_reducible first | exact HB.out | apply below_alloc | apply pw_below_drewN | apply below_drew1 | refine below_set ?_ GE306.out) | exact HB.out)) hb); clear BK306; clear HB; have BK306 := n0_; have HB := n1_; clear n0_ n1_; (try clear hb); (try clear hb2); (try clear hk); (try clear hi)))
          go_roundg k1
          case measure => have := HK1.out; omega
          case rel => exact ⟨(t307), (wrap64 (x8_1 + 1)), (by first | rfl | (simp; done) | (simp [*]; done)), (by first | rfl | (simp; done) | (simp [*]; done)), H', ⟨by have := HK1.out; omega⟩, ⟨by (with_reducible repeat (first | refine blk_drewN ?_ _ | refine blk_drew ?_ | refine blk_alloc ?_ _)); exact BK306.out⟩, ⟨by repeat (first | (with_reducible first | exact HB.out | apply below_alloc | apply pw_below_drewN | apply below_drew1 | refine below_set ?_ GE306.out) | exact HB.out)⟩⟩
        · rw [if_neg c7] at H
          have c7b0 : decide (x7_1 < t307) = false := decide_eq_false c7
          clear c7
          have H' := Aside0.mk H
          clear H
          have hcz10_0 : wr.cell? ⟨gb306, 0, none⟩ = some (.int .i64 a0_0) := (blk_cell BK306.out 0).trans rfl
          have hcz10_1 : wr.cell? ⟨gb306, 1, none⟩ = some (.int .i64 a0_1) := (blk_cell BK306.out 1).trans rfl
          have hcz10_2 : wr.cell? ⟨gb306, 2, none⟩ = some (.int .i64 a0_2) := (blk_cell BK306.out 2).trans rfl
          have hcz10_3 : wr.cell? ⟨gb306, 3, none⟩ = some (.int .i64 a0_3) := (blk_cell BK306.out 3).trans rfl
          have hcz10_4 : wr.cell? ⟨gb306, 4, none⟩ = some (.int .i64 a0_4) := (blk_cell BK306.out 4).trans rfl
          have hcz10_5 : wr.cell? ⟨gb306, 5, none⟩ = some (.int .i64 a0_5) := (blk_cell BK306.out 5).trans rfl
          have hfz10_0 := blk_frozen BK306.out 0
          have hfz10_1 := blk_frozen BK306.out 1
          have hfz10_2 := blk_frozen BK306.out 2
          have hfz10_3 := blk_frozen BK306.out 3
          have hfz10_4 := blk_frozen BK306.out 4
          have hfz10_5 := blk_frozen BK306.out 5
          go_wp2_with (first | ((with_reducible refine gate_callee (f := 30) rfl ?_); refine goesL_ (some 18) rfl rfl Try.func30 (by kernel_rfl) rfl #[.agg #[.int .i64 a0_0, .int .i64 a0_1, .int .i64 a0_2, .int .i64 a0_3, .int .i64 a0_4, .int .i64 a0_5], .int .i64 x8_1, .int .i64 a1, .int .i64 a2] rfl (by (try simp only [List.map_toArray, List.map_cons, List.map_nil]); first | done | rfl | (simp only [List.length_drop, List.length_take]; rfl)) ?_; (with_reducible refine (paternosterref04_Draw.calls k1 a0_0 a0_1 a0_2 a0_3 a0_4 a0_5 x8_1 a1 a2 t307 _ A6.out).mono ?_); rintro e w11 ⟨rfl, hb⟩; refine ⟨_, rfl, ?_⟩; have n0_ := Aside0.mk (blk_below (g := gb306) (o := .cells #[.int .i64 a0_0, .int .i64 a0_1, .int .i64 a0_2, .int .i64 a0_3, .int .i64 a0_4, .int .i64 a0_5] 45 (0, 0)) (by (with_reducible repeat (first | refine blk_drewN ?_ _ | refine blk_drew ?_ | refine blk_alloc ?_ _)); exact BK306.out) hb); have n1_ := Aside0.mk (below_step (by repeat (first | (with_reducible first | exact HB.out | apply below_alloc | apply pw_below_drewN | apply below_drew1 | refine below_set ?_ GE306.out) | exact HB.out)) hb); clear BK306; clear HB; have BK306 := n0_; have HB := n1_; clear n0_ n1_; (try clear hb); (try clear hb2); (try clear hk); (try clear hi)))
          go_roundg k1
          case measure => have := HK1.out; omega
          case rel => exact ⟨(x7_1), (wrap64 (x8_1 + 1)), (by first | rfl | (simp; done) | (simp [*]; done)), (by first | rfl | (simp; done) | (simp [*]; done)), H', ⟨by have := HK1.out; omega⟩, ⟨by (with_reducible repeat (first | refine blk_drewN ?_ _ | refine blk_drew ?_ | refine blk_alloc ?_ _)); exact BK306.out⟩, ⟨by repeat (first | (with_reducible first | exact HB.out | apply below_alloc | apply pw_below_drewN | apply below_drew1 | refine below_set ?_ GE306.out) | exact HB.out)⟩⟩
      · rw [if_neg c5] at H
        have c5b0 : decide (x8_1 < 5) = false := decide_eq_false c5
        clear c5
        obtain rfl := Option.some.inj H
        go_wp2
        go_ret
        exact ⟨by first | rfl | (simp [errW_none, errW_some] <;> rfl) | (simp [*, errW_none, errW_some] <;> rfl), by repeat (first | (with_reducible first | exact HB.out | apply below_alloc | apply pw_below_drewN | apply below_drew1 | refine below_set ?_ GE306.out) | exact HB.out)⟩

end Go.Proofs.Ytomaojmccchibaa.X
