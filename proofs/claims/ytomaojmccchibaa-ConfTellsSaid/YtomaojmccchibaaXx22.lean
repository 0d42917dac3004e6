-- Written by a program of this session (wip/xprint/xprint.py runs the kit's print with hand-proved externs).
import Derived.Test.YtomaojmccchibaaXx0
namespace Go.Proofs.Ytomaojmccchibaa.X
open Go.RowKit Go.Proofs.YtomaojmccchibaaW.PrintWords Go.Proofs.YtomaojmccchibaaW.PrintLast Go.Proofs.YtomaojmccchibaaW.PrintMore
attribute [local go_sem] max2_int min2_int max_two min_two max_three min_three max_four min_four   -- for this text's walks alone
set_option linter.unusedVariables false
set_option linter.unusedSimpArgs false

/-! ### paternosterref05_Bank: function 41 -/
def paternosterref05_Bank.l0 : Nat → Int → Int → Int → List (S69) → Int → Int → List Int → Int → Int → Int → Int → Int → Int → Int → Int → Int → Option (Int)
  | 0, _, _, _, _, _, _, _, _, _, _, _, _, _, _, _, _ => none
  | k + 1, x1, x5, x6, x301000, x301001, x301002, x301003, x301004, x301005, x301006, x301007, x301008, x301009, x301010, x301011, x301012 => if x6 < (x301000.length : Int) then (if x1 ≥ x5 then (if 0 ≤ x6 then (if x1 < (wrap64 (x5 + ((rd_T69 x301000 x6).f0))) then (some x6) else (paternosterref05_Bank.l0 k x1 (wrap64 (x5 + ((rd_T69 x301000 x6).f0))) (wrap64 (x6 + 1)) x301000 x301001 x301002 x301003 x301004 x301005 x301006 x301007 x301008 x301009 x301010 x301011 x301012)) else (none)) else (if 0 ≤ x6 then (paternosterref05_Bank.l0 k x1 (wrap64 (x5 + ((rd_T69 x301000 x6).f0))) (wrap64 (x6 + 1)) x301000 x301001 x301002 x301003 x301004 x301005 x301006 x301007 x301008 x301009 x301010 x301011 x301012) else (none))) else (some (-1))
def paternosterref05_Bank.f (k : Nat) (l0_0 : List (S69)) (a0_1 : Int) (a0_2 : Int) (l0_3 : List Int) (a0_4 : Int) (a0_5 : Int) (a0_6 : Int) (a0_7 : Int) (a0_8 : Int) (a0_9 : Int) (a0_10 : Int) (a0_11 : Int) (a0_12 : Int) (a1 : Int) : Option (Int) := paternosterref05_Bank.l0 k a1 0 0 l0_0 a0_1 a0_2 l0_3 a0_4 a0_5 a0_6 a0_7 a0_8 a0_9 a0_10 a0_11 a0_12
theorem paternosterref05_Bank.mono_l : ∀ k, (∀ y0 y1 y2 y3 y4 y5 y6 y7 y8 y9 y10 y11 y12 y13 y14 y15, LeO (paternosterref05_Bank.l0 k y0 y1 y2 y3 y4 y5 y6 y7 y8 y9 y10 y11 y12 y13 y14 y15) (paternosterref05_Bank.l0 (k + 1) y0 y1 y2 y3 y4 y5 y6 y7 y8 y9 y10 y11 y12 y13 y14 y15))
  | 0 => fun _ _ _ _ _ _ _ _ _ _ _ _ _ _ _ _ r h => by simp [paternosterref05_Bank.l0] at h
  | k + 1 => by
    have ih0 := paternosterref05_Bank.mono_l k
    · intro y0 y1 y2 y3 y4 y5 y6 y7 y8 y9 y10 y11 y12 y13 y14 y15
      unfold paternosterref05_Bank.l0
      repeat' first
      | (with_reducible exact ih0 _ _ _ _ _ _ _ _ _ _ _ _ _ _ _ _)
      | (with_reducible exact LeO.refl _)
      | (with_reducible exact LeO.none _)
      | (with_reducible refine LeO.ite ?_ ?_)
      | (with_reducible refine LeO.bind ?_ (fun _ => ?_))
      | exact ih0 _ _ _ _ _ _ _ _ _ _ _ _ _ _ _ _
      | exact LeO.none _
      | refine LeO.ite ?_ ?_
      | refine LeO.bind ?_ (fun _ => ?_)
theorem paternosterref05_Bank.mono : ∀ a0 a1 a2 a3 a4 a5 a6 a7 a8 a9 a10 a11 a12 a13 k, LeO (paternosterref05_Bank.f k a0 a1 a2 a3 a4 a5 a6 a7 a8 a9 a10 a11 a12 a13) (paternosterref05_Bank.f (k + 1) a0 a1 a2 a3 a4 a5 a6 a7 a8 a9 a10 a11 a12 a13) := by
  intro a0 a1 a2 a3 a4 a5 a6 a7 a8 a9 a10 a11 a12 a13 k
  have ih0 := paternosterref05_Bank.mono_l k
  unfold paternosterref05_Bank.f
  repeat' first
      | (with_reducible exact ih0 _ _ _ _ _ _ _ _ _ _ _ _ _ _ _ _)
      | (with_reducible exact LeO.refl _)
      | (with_reducible exact LeO.none _)
      | (with_reducible refine LeO.ite ?_ ?_)
      | (with_reducible refine LeO.bind ?_ (fun _ => ?_))
      | exact ih0 _ _ _ _ _ _ _ _ _ _ _ _ _ _ _ _
      | exact LeO.none _
      | refine LeO.ite ?_ ?_
      | refine LeO.bind ?_ (fun _ => ?_)
set_option maxHeartbeats 8000000 in
set_option maxRecDepth 100000 in
theorem paternosterref05_Bank.calls (k : Nat) (A0_0 : Option Addr) (c0_0 : Nat) (l0_0 : List (S69)) (a0_1 : Int) (a0_2 : Int) (A0_3 : Option Addr) (c0_3 : Nat) (l0_3 : List Int) (a0_4 : Int) (a0_5 : Int) (a0_6 : Int) (a0_7 : Int) (a0_8 : Int) (a0_9 : Int) (a0_10 : Int) (a0_11 : Int) (a0_12 : Int) (a1 : Int) (r : Int) (w : World) (hr0_0 : Kd.C k69 w A0_0 l0_0.length l0_0) (hc0_0 : l0_0.length ≤ c0_0) (hr0_3 : Kd.C (Kd.int .i64) w A0_3 l0_3.length l0_3) (hc0_3 : l0_3.length ≤ c0_3) (h : paternosterref05_Bank.f k l0_0 a0_1 a0_2 l0_3 a0_4 a0_5 a0_6 a0_7 a0_8 a0_9 a0_10 a0_11 a0_12 a1 = some r) :
    Calls Try.prog 41 #[.agg #[.slice A0_0 l0_0.length c0_0, .int .i64 a0_1, .int .i64 a0_2, .slice A0_3 l0_3.length c0_3, .int .i64 a0_4, .int .i64 a0_5, .int .i64 a0_6, .int .i64 a0_7, .int .i64 a0_8, .int .i64 a0_9, .int .i64 a0_10, .int .i64 a0_11, .int .i64 a0_12], .int .i64 a1] w fun e w' => e = .returned (.int .i64 r) ∧ Below w.heap.size w w' := by
  have hu31 := Try.underlying31
  have HR0_0 := Aside0.mk hr0_0
  have HC0_0 := Aside0.mk hc0_0
  clear hr0_0 hc0_0
  have HR0_3 := Aside0.mk hr0_3
  have HC0_3 := Aside0.mk hc0_3
  clear hr0_3 hc0_3
  have HB := Aside0.mk (Below.refl w.heap.size w)
  have H : (paternosterref05_Bank.l0 k a1 0 0 l0_0 a0_1 a0_2 l0_3 a0_4 a0_5 a0_6 a0_7 a0_8 a0_9 a0_10 a0_11 a0_12) = some r := h
  clear h
  have H' := Aside0.mk H
  clear H
  go_enter Try.func41, Try.ntmps41
  go_wp2_with (first | ((with_reducible refine gate_dst (N := 2) rfl ?_); refine box_event ?hg (N := 2) ?hd (cs := #[.slice A0_0 l0_0.length c0_0, .int .i64 a0_1, .int .i64 a0_2, .slice A0_3 l0_3.length c0_3, .int .i64 a0_4, .int .i64 a0_5, .int .i64 a0_6, .int .i64 a0_7, .int .i64 a0_8, .int .i64 a0_9, .int .i64 a0_10, .int .i64 a0_11, .int .i64 a0_12]) (t := 31) ?hr ?_; (case hd => rfl); (case hg => rfl); (case hr => first | (go_simp; done) | (go_simp; rfl)); intro gb300 hg w3 hbox hb; have n0_ := Aside0.mk (below_step (by repeat (first | (with_reducible first | exact HB.out | apply below_alloc | apply pw_below_drewN | apply below_drew1) | exact HB.out)) hb); have n1_ := Aside0.mk (hbox); have n2_ := Aside0.mk ((by rw [hg]; exact (below_size (by repeat (first | (with_reducible first | exact HB.out | apply below_alloc | apply pw_below_drewN | apply below_drew1) | exact HB.out))) : w.heap.size ≤ gb300)); have n3_ := Aside0.mk ((by rw [hg]; exact (below_size (by repeat (first | (with_reducible first | exact HB.out | apply below_alloc | apply pw_below_drewN | apply below_drew1) | exact HB.out))) : w.heap.size ≤ gb300)); clear HB; have HB := n0_; have BK300 := n1_; have GW300 := n2_; have GE300 := n3_; clear n0_ n1_ n2_ n3_; clear hb hbox hg))
  go_loopg [5, 6] k (fun kq v5 v6 w' => ∃ (x5_1 : Int) (x6_1 : Int), v5 = .int .i64 x5_1 ∧ v6 = .int .i64 x6_1 ∧ Aside0 (paternosterref05_Bank.l0 kq a1 x5_1 x6_1 l0_0 a0_1 a0_2 l0_3 a0_4 a0_5 a0_6 a0_7 a0_8 a0_9 a0_10 a0_11 a0_12 = some r) ∧ Aside0 (kq ≤ k) ∧ Aside0 (w'.heap[gb300]? = some (.cells #[(.slice A0_0 l0_0.length c0_0), .int .i64 a0_1, .int .i64 a0_2, (.slice A0_3 l0_3.length c0_3), .int .i64 a0_4, .int .i64 a0_5, .int .i64 a0_6, .int .i64 a0_7, .int .i64 a0_8, .int .i64 a0_9, .int .i64 a0_10, .int .i64 a0_11, .int .i64 a0_12] 31 (0, 0))) ∧ Aside0 (Below w.heap.size w w'))
  case atStart => exact ⟨(0), (0), (by first | rfl | (simp; done) | (simp [*]; done)), (by first | rfl | (simp; done) | (simp [*]; done)), H', ⟨Nat.le_refl _⟩, ⟨by (with_reducible repeat (first | refine blk_drewN ?_ _ | refine blk_drew ?_ | refine blk_alloc ?_ _)); exact BK300.out⟩, ⟨by repeat (first | (with_reducible first | exact HB.out | apply below_alloc | apply pw_below_drewN | apply below_drew1 | refine below_set ?_ GE300.out) | exact HB.out)⟩⟩
  case round =>
    clear H'
    try clear p2
    obtain ⟨x5_1, x6_1, rfl, rfl, HA, HK1, BK300, HB⟩ := hrel
    cases gk with
    | zero => exact absurd HA.out (by simp [paternosterref05_Bank.l0])
    | succ k1 =>
      have H := HA.out
      clear HA
      simp only [paternosterref05_Bank.l0] at H
      by_cases c4 : x6_1 < (l0_0.length : Int)
      · rw [if_pos c4] at H
        have c4b0 : decide (x6_1 < (l0_0.length : Int)) = true := decide_eq_true c4
        clear c4
        by_cases c5 : a1 ≥ x5_1
        · rw [if_pos c5] at H
          have c5b0 : decide (x5_1 ≤ a1) = true := decide_eq_true c5
          clear c5
          by_cases c6 : 0 ≤ x6_1
          · rw [if_pos c6] at H
            have c6b0 : decide (0 ≤ x6_1) = true := decide_eq_true c6
            clear c6
            by_cases c7 : a1 < (wrap64 (x5_1 + ((rd_T69 l0_0 x6_1).f0)))
            · rw [if_pos c7] at H
              have c7b0 : decide (a1 < (wrap64 (x5_1 + ((rd_T69 l0_0 x6_1).f0)))) = true := decide_eq_true c7
              clear c7
              obtain rfl := Option.some.inj H
              have hcz8_0 : wr.cell? ⟨gb300, 0, none⟩ = some (.slice A0_0 l0_0.length c0_0) := (blk_cell BK300.out 0).trans rfl
              have hcz8_1 : wr.cell? ⟨gb300, 1, none⟩ = some (.int .i64 a0_1) := (blk_cell BK300.out 1).trans rfl
              have hcz8_2 : wr.cell? ⟨gb300, 2, none⟩ = some (.int .i64 a0_2) := (blk_cell BK300.out 2).trans rfl
              have hcz8_3 : wr.cell? ⟨gb300, 3, none⟩ = some (.slice A0_3 l0_3.length c0_3) := (blk_cell BK300.out 3).trans rfl
              have hcz8_4 : wr.cell? ⟨gb300, 4, none⟩ = some (.int .i64 a0_4) := (blk_cell BK300.out 4).trans rfl
              have hcz8_5 : wr.cell? ⟨gb300, 5, none⟩ = some (.int .i64 a0_5) := (blk_cell BK300.out 5).trans rfl
              have hcz8_6 : wr.cell? ⟨gb300, 6, none⟩ = some (.int .i64 a0_6) := (blk_cell BK300.out 6).trans rfl
              have hcz8_7 : wr.cell? ⟨gb300, 7, none⟩ = some (.int .i64 a0_7) := (blk_cell BK300.out 7).trans rfl
              have hcz8_8 : wr.cell? ⟨gb300, 8, none⟩ = some (.int .i64 a0_8) := (blk_cell BK300.out 8).trans rfl
              have hcz8_9 : wr.cell? ⟨gb300, 9, none⟩ = some (.int .i64 a0_9) := (blk_cell BK300.out 9).trans rfl
              have hcz8_10 : wr.cell? ⟨gb300, 10, none⟩ = some (.int .i64 a0_10) := (blk_cell BK300.out 10).trans rfl
              have hcz8_11 : wr.cell? ⟨gb300, 11, none⟩ = some (.int .i64 a0_11) := (blk_cell BK300.out 11).trans rfl
              have hcz8_12 : wr.cell? ⟨gb300, 12, none⟩ = some (.int .i64 a0_12) := (blk_cell BK300.out 12).trans rfl
              have hfz8_0 := blk_frozen BK300.out 0
              have hfz8_1 := blk_frozen BK300.out 1
              have hfz8_2 := blk_frozen BK300.out 2
              have hfz8_3 := blk_frozen BK300.out 3
              have hfz8_4 := blk_frozen BK300.out 4
              have hfz8_5 := blk_frozen BK300.out 5
              have hfz8_6 := blk_frozen BK300.out 6
              have hfz8_7 := blk_frozen BK300.out 7
              have hfz8_8 := blk_frozen BK300.out 8
              have hfz8_9 := blk_frozen BK300.out 9
              have hfz8_10 := blk_frozen BK300.out 10
              have hfz8_11 := blk_frozen BK300.out 11
              have hfz8_12 := blk_frozen BK300.out 12
              have p301 : 0 ≤ (x6_1 : Int) := of_decide_eq_true (by first | (with_reducible assumption) | assumption)
              have q301 : x6_1 < (l0_0.length : Int) := of_decide_eq_true (by first | (with_reducible assumption) | assumption)
              obtain ⟨ad301, e301, hx301_0, hx301_1, hx301_2, hx301_3, hx301_4, hx301_5, hx301_6⟩ := at_T69 HR0_0.out x6_1 p301 q301
              cases e301
              replace hx301_0 := (HB.out.cell (World.block_lt_of_cell? w _ hx301_0)).trans hx301_0
              replace hx301_1 := (HB.out.cell (World.block_lt_of_cell? w _ hx301_1)).trans hx301_1
              replace hx301_2 := (HB.out.cell (World.block_lt_of_cell? w _ hx301_2)).trans hx301_2
              replace hx301_3 := (HB.out.cell (World.block_lt_of_cell? w _ hx301_3)).trans hx301_3
              replace hx301_4 := (HB.out.cell (World.block_lt_of_cell? w _ hx301_4)).trans hx301_4
              replace hx301_5 := (HB.out.cell (World.block_lt_of_cell? w _ hx301_5)).trans hx301_5
              replace hx301_6 := (HB.out.cell (World.block_lt_of_cell? w _ hx301_6)).trans hx301_6
              replace p301 := eq_true p301
              replace q301 := eq_true q301
              go_wp2
              go_ret
              exact ⟨by first | rfl | (simp [errW_none, errW_some] <;> rfl) | (simp [*, errW_none, errW_some] <;> rfl), by repeat (first | (with_reducible first | exact HB.out | apply below_alloc | apply pw_below_drewN | apply below_drew1 | refine below_set ?_ GE300.out) | exact HB.out)⟩
            · rw [if_neg c7] at H
              have c7b0 : decide (a1 < (wrap64 (x5_1 + ((rd_T69 l0_0 x6_1).f0)))) = false := decide_eq_false c7
              clear c7
              have H' := Aside0.mk H
              clear H
              have hcz9_0 : wr.cell? ⟨gb300, 0, none⟩ = some (.slice A0_0 l0_0.length c0_0) := (blk_cell BK300.out 0).trans rfl
              have hcz9_1 : wr.cell? ⟨gb300, 1, none⟩ = some (.int .i64 a0_1) := (blk_cell BK300.out 1).trans rfl
              have hcz9_2 : wr.cell? ⟨gb300, 2, none⟩ = some (.int .i64 a0_2) := (blk_cell BK300.out 2).trans rfl
              have hcz9_3 : wr.cell? ⟨gb300, 3, none⟩ = some (.slice A0_3 l0_3.length c0_3) := (blk_cell BK300.out 3).trans rfl
              have hcz9_4 : wr.cell? ⟨gb300, 4, none⟩ = some (.int .i64 a0_4) := (blk_cell BK300.out 4).trans rfl
              have hcz9_5 : wr.cell? ⟨gb300, 5, none⟩ = some (.int .i64 a0_5) := (blk_cell BK300.out 5).trans rfl
              have hcz9_6 : wr.cell? ⟨gb300, 6, none⟩ = some (.int .i64 a0_6) := (blk_cell BK300.out 6).trans rfl
              have hcz9_7 : wr.cell? ⟨gb300, 7, none⟩ = some (.int .i64 a0_7) := (blk_cell BK300.out 7).trans rfl
              have hcz9_8 : wr.cell? ⟨gb300, 8, none⟩ = some (.int .i64 a0_8) := (blk_cell BK300.out 8).trans rfl
              have hcz9_9 : wr.cell? ⟨gb300, 9, none⟩ = some (.int .i64 a0_9) := (blk_cell BK300.out 9).trans rfl
              have hcz9_10 : wr.cell? ⟨gb300, 10, none⟩ = some (.int .i64 a0_10) := (blk_cell BK300.out 10).trans rfl
              have hcz9_11 : wr.cell? ⟨gb300, 11, none⟩ = some (.int .i64 a0_11) := (blk_cell BK300.out 11).trans rfl
              have hcz9_12 : wr.cell? ⟨gb300, 12, none⟩ = some (.int .i64 a0_12) := (blk_cell BK300.out 12).trans rfl
              have hfz9_0 := blk_frozen BK300.out 0
              have hfz9_1 := blk_frozen BK300.out 1
              have hfz9_2 := blk_frozen BK300.out 2
              have hfz9_3 := blk_frozen BK300.out 3
              have hfz9_4 := blk_frozen BK300.out 4
              have hfz9_5 := blk_frozen BK300.out 5
              have hfz9_6 := blk_frozen BK300.out 6
              have hfz9_7 := blk_frozen BK300.out 7
              have hfz9_8 := blk_frozen BK300.out 8
              have hfz9_9 := blk_frozen BK300.out 9
              have hfz9_10 := blk_frozen BK300.out 10
              have hfz9_11 := blk_frozen BK300.out 11
              have hfz9_12 := blk_frozen BK300.out 12
              have p301 : 0 ≤ (x6_1 : Int) := of_decide_eq_true (by first | (with_reducible assumption) | assumption)
              have q301 : x6_1 < (l0_0.length : Int) := of_decide_eq_true (by first | (with_reducible assumption) | assumption)
              obtain ⟨ad301, e301, hx301_0, hx301_1, hx301_2, hx301_3, hx301_4, hx301_5, hx301_6⟩ := at_T69 HR0_0.out x6_1 p301 q301
              cases e301
              replace hx301_0 := (HB.out.cell (World.block_lt_of_cell? w _ hx301_0)).trans hx301_0
              replace hx301_1 := (HB.out.cell (World.block_lt_of_cell? w _ hx301_1)).trans hx301_1
              replace hx301_2 := (HB.out.cell (World.block_lt_of_cell? w _ hx301_2)).trans hx301_2
              replace hx301_3 := (HB.out.cell (World.block_lt_of_cell? w _ hx301_3)).trans hx301_3
              replace hx301_4 := (HB.out.cell (World.block_lt_of_cell? w _ hx301_4)).trans hx301_4
              replace hx301_5 := (HB.out.cell (World.block_lt_of_cell? w _ hx301_5)).trans hx301_5
              replace hx301_6 := (HB.out.cell (World.block_lt_of_cell? w _ hx301_6)).trans hx301_6
              replace p301 := eq_true p301
              replace q301 := eq_true q301
              have p302 : 0 ≤ (x6_1 : Int) := of_decide_eq_true (by first | (with_reducible assumption) | assumption)
              have q302 : x6_1 < (l0_0.length : Int) := of_decide_eq_true (by first | (with_reducible assumption) | assumption)
              obtain ⟨ad302, e302, hx302_0, hx302_1, hx302_2, hx302_3, hx302_4, hx302_5, hx302_6⟩ := at_T69 HR0_0.out x6_1 p302 q302
              obtain rfl : ad301 = ad302 := (by injection e302)
              replace hx302_0 := (HB.out.cell (World.block_lt_of_cell? w _ hx302_0)).trans hx302_0
              replace hx302_1 := (HB.out.cell (World.block_lt_of_cell? w _ hx302_1)).trans hx302_1
              replace hx302_2 := (HB.out.cell (World.block_lt_of_cell? w _ hx302_2)).trans hx302_2
              replace hx302_3 := (HB.out.cell (World.block_lt_of_cell? w _ hx302_3)).trans hx302_3
              replace hx302_4 := (HB.out.cell (World.block_lt_of_cell? w _ hx302_4)).trans hx302_4
              replace hx302_5 := (HB.out.cell (World.block_lt_of_cell? w _ hx302_5)).trans hx302_5
              replace hx302_6 := (HB.out.cell (World.block_lt_of_cell? w _ hx302_6)).trans hx302_6
              replace p302 := eq_true p302
              replace q302 := eq_true q302
              go_wp2
              go_roundg k1
              case measure => have := HK1.out; omega
              case rel => exact ⟨(wrap64 (x5_1 + ((rd_T69 l0_0 x6_1).f0))), (wrap64 (x6_1 + 1)), (by first | rfl | (simp; done) | (simp [*]; done)), (by first | rfl | (simp; done) | (simp [*]; done)), H', ⟨by have := HK1.out; omega⟩, ⟨by (with_reducible repeat (first | refine blk_drewN ?_ _ | refine blk_drew ?_ | refine blk_alloc ?_ _)); exact BK300.out⟩, ⟨by repeat (first | (with_reducible first | exact HB.out | apply below_alloc | apply pw_below_drewN | apply below_drew1 | refine below_set ?_ GE300.out) | exact HB.out)⟩⟩
          · rw [if_neg c6] at H
            exact absurd H (by simp)
        · rw [if_neg c5] at H
          have c5b0 : decide (x5_1 ≤ a1) = false := decide_eq_false c5
          clear c5
          by_cases c10 : 0 ≤ x6_1
          · rw [if_pos c10] at H
            have c10b0 : decide (0 ≤ x6_1) = true := decide_eq_true c10
            clear c10
            have H' := Aside0.mk H
            clear H
            have hcz11_0 : wr.cell? ⟨gb300, 0, none⟩ = some (.slice A0_0 l0_0.length c0_0) := (blk_cell BK300.out 0).trans rfl
            have hcz11_1 : wr.cell? ⟨gb300, 1, none⟩ = some (.int .i64 a0_1) := (blk_cell BK300.out 1).trans rfl
            have hcz11_2 : wr.cell? ⟨gb300, 2, none⟩ = some (.int .i64 a0_2) := (blk_cell BK300.out 2).trans rfl
            have hcz11_3 : wr.cell? ⟨gb300, 3, none⟩ = some (.slice A0_3 l0_3.length c0_3) := (blk_cell BK300.out 3).trans rfl
            have hcz11_4 : wr.cell? ⟨gb300, 4, none⟩ = some (.int .i64 a0_4) := (blk_cell BK300.out 4).trans rfl
            have hcz11_5 : wr.cell? ⟨gb300, 5, none⟩ = some (.int .i64 a0_5) := (blk_cell BK300.out 5).trans rfl
            have hcz11_6 : wr.cell? ⟨gb300, 6, none⟩ = some (.int .i64 a0_6) := (blk_cell BK300.out 6).trans rfl
            have hcz11_7 : wr.cell? ⟨gb300, 7, none⟩ = some (.int .i64 a0_7) := (blk_cell BK300.out 7).trans rfl
            have hcz11_8 : wr.cell? ⟨gb300, 8, none⟩ = some (.int .i64 a0_8) := (blk_cell BK300.out 8).trans rfl
            have hcz11_9 : wr.cell? ⟨gb300, 9, none⟩ = some (.int .i64 a0_9) := (blk_cell BK300.out 9).trans rfl
            have hcz11_10 : wr.cell? ⟨gb300, 10, none⟩ = some (.int .i64 a0_10) := (blk_cell BK300.out 10).trans rfl
            have hcz11_11 : wr.cell? ⟨gb300, 11, none⟩ = some (.int .i64 a0_11) := (blk_cell BK300.out 11).trans rfl
            have hcz11_12 : wr.cell? ⟨gb300, 12, none⟩ = some (.int .i64 a0_12) := (blk_cell BK300.out 12).trans rfl
            have hfz11_0 := blk_frozen BK300.out 0
            have hfz11_1 := blk_frozen BK300.out 1
            have hfz11_2 := blk_frozen BK300.out 2
            have hfz11_3 := blk_frozen BK300.out 3
            have hfz11_4 := blk_frozen BK300.out 4
            have hfz11_5 := blk_frozen BK300.out 5
            have hfz11_6 := blk_frozen BK300.out 6
            have hfz11_7 := blk_frozen BK300.out 7
            have hfz11_8 := blk_frozen BK300.out 8
            have hfz11_9 := blk_frozen BK300.out 9
            have hfz11_10 := blk_frozen BK300.out 10
            have hfz11_11 := blk_frozen BK300.out 11
            have hfz11_12 := blk_frozen BK300.out 12
            have p303 : 0 ≤ (x6_1 : Int) := of_decide_eq_true (by first | (with_reducible assumption) | assumption)
            have q303 : x6_1 < (l0_0.length : Int) := of_decide_eq_true (by first | (with_reducible assumption) | assumption)
            obtain ⟨ad303, e303, hx303_0, hx303_1, hx303_2, hx303_3, hx303_4, hx303_5, hx303_6⟩ := at_T69 HR0_0.out x6_1 p303 q303
            cases e303
            replace hx303_0 := (HB.out.cell (World.block_lt_of_cell? w _ hx303_0)).trans hx303_0
            replace hx303_1 := (HB.out.cell (World.block_lt_of_cell? w _ hx303_1)).trans hx303_1
            replace hx303_2 := (HB.out.cell (World.block_lt_of_cell? w _ hx303_2)).trans hx303_2
            replace hx303_3 := (HB.out.cell (World.block_lt_of_cell? w _ hx303_3)).trans hx303_3
            replace hx303_4 := (HB.out.cell (World.block_lt_of_cell? w _ hx303_4)).trans hx303_4
            replace hx303_5 := (HB.out.cell (World.block_lt_of_cell? w _ hx303_5)).trans hx303_5
            replace hx303_6 := (HB.out.cell (World.block_lt_of_cell? w _ hx303_6)).trans hx303_6
            replace p303 := eq_true p303
            replace q303 := eq_true q303
            go_wp2
            go_roundg k1
            case measure => have := HK1.out; omega
            case rel => exact ⟨(wrap64 (x5_1 + ((rd_T69 l0_0 x6_1).f0))), (wrap64 (x6_1 + 1)), (by first | rfl | (simp; done) | (simp [*]; done)), (by first | rfl | (simp; done) | (simp [*]; done)), H', ⟨by have := HK1.out; omega⟩, ⟨by (with_reducible repeat (first | refine blk_drewN ?_ _ | refine blk_drew ?_ | refine blk_alloc ?_ _)); exact BK300.out⟩, ⟨by repeat (first | (with_reducible first | exact HB.out | apply below_alloc | apply pw_below_drewN | apply below_drew1 | refine below_set ?_ GE300.out) | exact HB.out)⟩⟩
          · rw [if_neg c10] at H
            exact absurd H (by simp)
      · rw [if_neg c4] at H
        have c4b0 : decide (x6_1 < (l0_0.length : Int)) = false := decide_eq_false c4
        clear c4
        obtain rfl := Option.some.inj H
        have hcz12_0 : wr.cell? ⟨gb300, 0, none⟩ = some (.slice A0_0 l0_0.length c0_0) := (blk_cell BK300.out 0).trans rfl
        have hcz12_1 : wr.cell? ⟨gb300, 1, none⟩ = some (.int .i64 a0_1) := (blk_cell BK300.out 1).trans rfl
        have hcz12_2 : wr.cell? ⟨gb300, 2, none⟩ = some (.int .i64 a0_2) := (blk_cell BK300.out 2).trans rfl
        have hcz12_3 : wr.cell? ⟨gb300, 3, none⟩ = some (.slice A0_3 l0_3.length c0_3) := (blk_cell BK300.out 3).trans rfl
        have hcz12_4 : wr.cell? ⟨gb300, 4, none⟩ = some (.int .i64 a0_4) := (blk_cell BK300.out 4).trans rfl
        have hcz12_5 : wr.cell? ⟨gb300, 5, none⟩ = some (.int .i64 a0_5) := (blk_cell BK300.out 5).trans rfl
        have hcz12_6 : wr.cell? ⟨gb300, 6, none⟩ = some (.int .i64 a0_6) := (blk_cell BK300.out 6).trans rfl
        have hcz12_7 : wr.cell? ⟨gb300, 7, none⟩ = some (.int .i64 a0_7) := (blk_cell BK300.out 7).trans rfl
        have hcz12_8 : wr.cell? ⟨gb300, 8, none⟩ = some (.int .i64 a0_8) := (blk_cell BK300.out 8).trans rfl
        have hcz12_9 : wr.cell? ⟨gb300, 9, none⟩ = some (.int .i64 a0_9) := (blk_cell BK300.out 9).trans rfl
        have hcz12_10 : wr.cell? ⟨gb300, 10, none⟩ = some (.int .i64 a0_10) := (blk_cell BK300.out 10).trans rfl
        have hcz12_11 : wr.cell? ⟨gb300, 11, none⟩ = some (.int .i64 a0_11) := (blk_cell BK300.out 11).trans rfl
        have hcz12_12 : wr.cell? ⟨gb300, 12, none⟩ = some (.int .i64 a0_12) := (blk_cell BK300.out 12).trans rfl
        have hfz12_0 := blk_frozen BK300.out 0
        have hfz12_1 := blk_frozen BK300.out 1
        have hfz12_2 := blk_frozen BK300.out 2
        have hfz12_3 := blk_frozen BK300.out 3
        have hfz12_4 := blk_frozen BK300.out 4
        have hfz12_5 := blk_frozen BK300.out 5
        have hfz12_6 := blk_frozen BK300.out 6
        have hfz12_7 := blk_frozen BK300.out 7
        have hfz12_8 := blk_frozen BK300.out 8
        have hfz12_9 := blk_frozen BK300.out 9
        have hfz12_10 := blk_frozen BK300.out 10
        have hfz12_11 := blk_frozen BK300.out 11
        have hfz12_12 := blk_frozen BK300.out 12
        go_wp2
        go_ret
        exact ⟨by first | rfl | (simp [errW_none, errW_some] <;> rfl) | (simp [*, errW_none, errW_some] <;> rfl), by repeat (first | (with_reducible first | exact HB.out | apply below_alloc | apply pw_below_drewN | apply below_drew1 | refine below_set ?_ GE300.out) | exact HB.out)⟩

end Go.Proofs.Ytomaojmccchibaa.X
