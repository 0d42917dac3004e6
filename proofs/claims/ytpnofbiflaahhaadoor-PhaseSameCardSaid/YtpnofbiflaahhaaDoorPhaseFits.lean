/- phase.Fits, by hand: an array of counters, a loop. -/
import Derived.Test.YtpnofbiflaahhaaDoorPhaseMay
namespace Go.Proofs.YtpnofbiflaahhaaDoor.X
open Go.RowKit Go.Proofs.YtpnofbiflaahhaaDoorW.PrintWords Go.Proofs.YtpnofbiflaahhaaDoorW.PrintLast Go.Proofs.YtpnofbiflaahhaaDoorW.PrintMore
set_option linter.unusedVariables false
set_option linter.unusedSimpArgs false

theorem wrap_small {x : Int} (h0 : 0 ≤ x) (h1 : x ≤ 100000) : wrap64 x = x := by
  unfold wrap64; omega
def cntI (l : List Int) (p : Int) : Int := (l.count p : Int)
def fitsB (l : List Int) : Bool := l.all (fun p => decide (isP p)) && (decide (cntI l 0 = 0 ∨ cntI l 0 + cntI l 5 = (l.length : Int)) && decide (cntI l 2 + cntI l 4 ≤ 1))
def phase_Fits.f (l0 : List Int) : Option (Bool) := if l0.length ≤ 1000 then some (fitsB l0) else none
theorem cnt_take (l : List Int) (i : Nat) (h : i < l.length) (p : Int) : cntI (l.take (i + 1)) p = cntI (l.take i) p + (if l.getD i 0 = p then 1 else 0) := by
  unfold cntI
  rw [List.take_add_one, List.getElem?_eq_getElem h, List.getD_eq_getElem?_getD, List.getElem?_eq_getElem h]
  simp only [Option.toList_some, List.count_append, List.count_singleton, Option.getD_some]
  by_cases e : l[i] = p <;> simp [e]
theorem cnt_le (l : List Int) (i : Nat) (p : Int) : 0 ≤ cntI (l.take i) p ∧ cntI (l.take i) p ≤ (i : Int) := by
  unfold cntI
  have h1 := List.count_le_length (a := p) (l := l.take i)
  have h2 : (l.take i).length ≤ i := by simp; omega
  omega
set_option maxHeartbeats 1600000 in
theorem phase_Fits.calls (A0 : Option Addr) (c0 : Nat) (l0 : List Int) (r : Bool) (w : World) (hr0 : Kd.C (Kd.int .i64) w A0 l0.length l0) (hc0 : l0.length ≤ c0) (h : phase_Fits.f l0 = some r) :
    Calls Tryd.prog 13 #[.slice A0 l0.length c0] w fun e w' => e = .returned (.bool r) ∧ Below w.heap.size w w' := by
  unfold phase_Fits.f at h
  by_cases hl : l0.length ≤ 1000
  · rw [if_pos hl] at h
    have hr := Aside0.mk (Option.some.inj h)
    have HL := Aside0.mk hl
    have HR0 := Aside0.mk hr0
    clear h hl hr0 hc0
    go_enter Tryd.func13, Tryd.ntmps13
    go_wp2_with fail
    go_loopg [9] (l0.length + 1) (fun kq v9 w' => ∃ (i : Nat) (d0 d1 d2 d3 d4 d5 : Int), v9 = .int .i64 (i : Int) ∧ Aside0 (i ≤ l0.length ∧ l0.length + 1 ≤ kq + i ∧ (∀ x ∈ l0.take i, isP x) ∧ d0 = cntI (l0.take i) 0 ∧ d1 = cntI (l0.take i) 1 ∧ d2 = cntI (l0.take i) 2 ∧ d3 = cntI (l0.take i) 3 ∧ d4 = cntI (l0.take i) 4 ∧ d5 = cntI (l0.take i) 5) ∧
      Aside0 (w'.heap[w.heap.size]? = some (.cells #[.int .i64 d0, .int .i64 d1, .int .i64 d2, .int .i64 d3, .int .i64 d4, .int .i64 d5] 36 (0, 0))) ∧ Aside0 (Below w.heap.size w w'))
    case atStart => exact ⟨0, 0, 0, 0, 0, 0, 0, rfl, ⟨by omega, by omega, by simp, rfl, rfl, rfl, rfl, rfl, rfl⟩, ⟨blk_new _ _⟩, ⟨below_alloc (Below.refl _ _) _⟩⟩
    case round =>
      obtain ⟨i, d0, d1, d2, d3, d4, d5, rfl, HI, BK, HB⟩ := hrel
      have hi1 := HI.out.1
      have hi2 := HI.out.2.1
      have hg := blk_lt BK.out
      have k0 := (blk_cell BK.out 0).trans (rfl : _ = some (Value.int .i64 d0))
      have z0 := blk_frozen BK.out 0
      have k1 := (blk_cell BK.out 1).trans (rfl : _ = some (Value.int .i64 d1))
      have z1 := blk_frozen BK.out 1
      have k2 := (blk_cell BK.out 2).trans (rfl : _ = some (Value.int .i64 d2))
      have z2 := blk_frozen BK.out 2
      have k3 := (blk_cell BK.out 3).trans (rfl : _ = some (Value.int .i64 d3))
      have z3 := blk_frozen BK.out 3
      have k4 := (blk_cell BK.out 4).trans (rfl : _ = some (Value.int .i64 d4))
      have z4 := blk_frozen BK.out 4
      have k5 := (blk_cell BK.out 5).trans (rfl : _ = some (Value.int .i64 d5))
      have z5 := blk_frozen BK.out 5
      by_cases c : i < l0.length
      · have b0 : decide ((i : Int) < (l0.length : Int)) = true := decide_eq_true (by omega)
        have b1 : decide ((0 : Int) ≤ (i : Int)) = true := decide_eq_true (by omega)
        obtain ⟨ad, e1, hx⟩ := Kd.at_int HR0.out (i : Int) (by omega) (by omega)
        cases e1
        replace hx := (HB.out.cell (World.block_lt_of_cell? w _ hx)).trans hx
        simp only [Int.toNat_natCast] at hx
        have hrd : rd l0 (i : Int) = l0.getD i 0 := rfl
        obtain ⟨p, hp⟩ : ∃ p, rd l0 (i : Int) = p := ⟨_, rfl⟩
        rw [hp] at hx
        have hgd := Aside0.mk (hrd.symm.trans hp)
        have hmem := Aside0.mk (show p ∈ l0 by rw [← hgd.out, List.getD_eq_getElem?_getD, List.getElem?_eq_getElem c]; exact List.getElem_mem c)
        have hw9 := Aside0.mk (show wrap64 ((i : Int) + 1) = ((i + 1 : Nat) : Int) by rw [wrap_small (by omega) (by have := HL.out; omega)]; omega)
        clear hrd hp
        have q0 := eq_true (show (0 : Int) ≤ (i : Int) by omega)
        have q1 := eq_true (show (i : Int) < (l0.length : Int) by omega)
        have hi1' := c
        clear c
        by_cases hph : isP p
        · have h6 : p = 0 ∨ p = 1 ∨ p = 2 ∨ p = 3 ∨ p = 4 ∨ p = 5 := by unfold isP at hph; omega
          clear hph
          have HC := Aside0.mk hi1'
          have HD := Aside0.mk HI.out.2.2.2
          have HN := Aside0.mk (show ∀ q, l0.getD i 0 = q → isP q → ∀ x ∈ l0.take (i + 1), isP x by
            intro q hq hiq x hx
            rw [List.take_add_one, List.mem_append] at hx
            rcases hx with hx | hx
            · exact HI.out.2.2.1 x hx
            · rw [List.getElem?_eq_getElem hi1'] at hx
              simp only [Option.toList_some, List.mem_singleton] at hx
              rw [hx, ← show l0.getD i 0 = l0[i] by rw [List.getD_eq_getElem?_getD, List.getElem?_eq_getElem hi1']; rfl, hq]
              exact hiq)
          clear hi1'
          rcases h6 with rfl | rfl | rfl | rfl | rfl | rfl
          · have hw := (show wrap64 (d0 + 1) = d0 + 1 from wrap_small (by have := cnt_le l0 i 0; have := HD.out; have := HL.out; have := HC.out; omega) (by have := cnt_le l0 i 0; have := HD.out; have := HL.out; have := HC.out; omega))
            have HW := Aside0.mk hw
            clear hw
            cases gk with
            | zero => omega
            | succ gk =>
            go_wp2_with (go_at_call 18; go_in)
            go_roundg gk
            case measure => omega
            case rel => exact ⟨i + 1, d0 + 1, d1, d2, d3, d4, d5, by rw [hw9.out], ⟨HC.out, by omega, HN.out 0 hgd.out (by unfold isP; omega), by rw [cnt_take l0 i HC.out, hgd.out]; simp; try exact (HD.out.1), by rw [cnt_take l0 i HC.out, hgd.out]; simp; try exact (HD.out.2.1), by rw [cnt_take l0 i HC.out, hgd.out]; simp; try exact (HD.out.2.2.1), by rw [cnt_take l0 i HC.out, hgd.out]; simp; try exact (HD.out.2.2.2.1), by rw [cnt_take l0 i HC.out, hgd.out]; simp; try exact (HD.out.2.2.2.2.1), by rw [cnt_take l0 i HC.out, hgd.out]; simp; try exact (HD.out.2.2.2.2.2)⟩, ⟨by rw [HW.out]; (with_reducible repeat (first | refine blk_drewN ?_ _ | refine blk_drew ?_ | refine blk_alloc ?_ _)); refine blk_put (cs := #[.int .i64 d0, .int .i64 d1, .int .i64 d2, .int .i64 d3, .int .i64 d4, .int .i64 d5]) ?_ 0 _ rfl; exact BK.out⟩, ⟨by repeat (first | exact HB.out | apply below_alloc | apply Below.drew | refine below_set ?_ (Nat.le_refl _))⟩⟩
          · have hw := (show wrap64 (d1 + 1) = d1 + 1 from wrap_small (by have := cnt_le l0 i 1; have := HD.out; have := HL.out; have := HC.out; omega) (by have := cnt_le l0 i 1; have := HD.out; have := HL.out; have := HC.out; omega))
            have HW := Aside0.mk hw
            clear hw
            cases gk with
            | zero => omega
            | succ gk =>
            go_wp2_with (go_at_call 18; go_in)
            go_roundg gk
            case measure => omega
            case rel => exact ⟨i + 1, d0, d1 + 1, d2, d3, d4, d5, by rw [hw9.out], ⟨HC.out, by omega, HN.out 1 hgd.out (by unfold isP; omega), by rw [cnt_take l0 i HC.out, hgd.out]; simp; try exact (HD.out.1), by rw [cnt_take l0 i HC.out, hgd.out]; simp; try exact (HD.out.2.1), by rw [cnt_take l0 i HC.out, hgd.out]; simp; try exact (HD.out.2.2.1), by rw [cnt_take l0 i HC.out, hgd.out]; simp; try exact (HD.out.2.2.2.1), by rw [cnt_take l0 i HC.out, hgd.out]; simp; try exact (HD.out.2.2.2.2.1), by rw [cnt_take l0 i HC.out, hgd.out]; simp; try exact (HD.out.2.2.2.2.2)⟩, ⟨by rw [HW.out]; (with_reducible repeat (first | refine blk_drewN ?_ _ | refine blk_drew ?_ | refine blk_alloc ?_ _)); refine blk_put (cs := #[.int .i64 d0, .int .i64 d1, .int .i64 d2, .int .i64 d3, .int .i64 d4, .int .i64 d5]) ?_ 1 _ rfl; exact BK.out⟩, ⟨by repeat (first | exact HB.out | apply below_alloc | apply Below.drew | refine below_set ?_ (Nat.le_refl _))⟩⟩
          · have hw := (show wrap64 (d2 + 1) = d2 + 1 from wrap_small (by have := cnt_le l0 i 2; have := HD.out; have := HL.out; have := HC.out; omega) (by have := cnt_le l0 i 2; have := HD.out; have := HL.out; have := HC.out; omega))
            have HW := Aside0.mk hw
            clear hw
            cases gk with
            | zero => omega
            | succ gk =>
            go_wp2_with (go_at_call 18; go_in)
            go_roundg gk
            case measure => omega
            case rel => exact ⟨i + 1, d0, d1, d2 + 1, d3, d4, d5, by rw [hw9.out], ⟨HC.out, by omega, HN.out 2 hgd.out (by unfold isP; omega), by rw [cnt_take l0 i HC.out, hgd.out]; simp; try exact (HD.out.1), by rw [cnt_take l0 i HC.out, hgd.out]; simp; try exact (HD.out.2.1), by rw [cnt_take l0 i HC.out, hgd.out]; simp; try exact (HD.out.2.2.1), by rw [cnt_take l0 i HC.out, hgd.out]; simp; try exact (HD.out.2.2.2.1), by rw [cnt_take l0 i HC.out, hgd.out]; simp; try exact (HD.out.2.2.2.2.1), by rw [cnt_take l0 i HC.out, hgd.out]; simp; try exact (HD.out.2.2.2.2.2)⟩, ⟨by rw [HW.out]; (with_reducible repeat (first | refine blk_drewN ?_ _ | refine blk_drew ?_ | refine blk_alloc ?_ _)); refine blk_put (cs := #[.int .i64 d0, .int .i64 d1, .int .i64 d2, .int .i64 d3, .int .i64 d4, .int .i64 d5]) ?_ 2 _ rfl; exact BK.out⟩, ⟨by repeat (first | exact HB.out | apply below_alloc | apply Below.drew | refine below_set ?_ (Nat.le_refl _))⟩⟩
          · have hw := (show wrap64 (d3 + 1) = d3 + 1 from wrap_small (by have := cnt_le l0 i 3; have := HD.out; have := HL.out; have := HC.out; omega) (by have := cnt_le l0 i 3; have := HD.out; have := HL.out; have := HC.out; omega))
            have HW := Aside0.mk hw
            clear hw
            cases gk with
            | zero => omega
            | succ gk =>
            go_wp2_with (go_at_call 18; go_in)
            go_roundg gk
            case measure => omega
            case rel => exact ⟨i + 1, d0, d1, d2, d3 + 1, d4, d5, by rw [hw9.out], ⟨HC.out, by omega, HN.out 3 hgd.out (by unfold isP; omega), by rw [cnt_take l0 i HC.out, hgd.out]; simp; try exact (HD.out.1), by rw [cnt_take l0 i HC.out, hgd.out]; simp; try exact (HD.out.2.1), by rw [cnt_take l0 i HC.out, hgd.out]; simp; try exact (HD.out.2.2.1), by rw [cnt_take l0 i HC.out, hgd.out]; simp; try exact (HD.out.2.2.2.1), by rw [cnt_take l0 i HC.out, hgd.out]; simp; try exact (HD.out.2.2.2.2.1), by rw [cnt_take l0 i HC.out, hgd.out]; simp; try exact (HD.out.2.2.2.2.2)⟩, ⟨by rw [HW.out]; (with_reducible repeat (first | refine blk_drewN ?_ _ | refine blk_drew ?_ | refine blk_alloc ?_ _)); refine blk_put (cs := #[.int .i64 d0, .int .i64 d1, .int .i64 d2, .int .i64 d3, .int .i64 d4, .int .i64 d5]) ?_ 3 _ rfl; exact BK.out⟩, ⟨by repeat (first | exact HB.out | apply below_alloc | apply Below.drew | refine below_set ?_ (Nat.le_refl _))⟩⟩
          · have hw := (show wrap64 (d4 + 1) = d4 + 1 from wrap_small (by have := cnt_le l0 i 4; have := HD.out; have := HL.out; have := HC.out; omega) (by have := cnt_le l0 i 4; have := HD.out; have := HL.out; have := HC.out; omega))
            have HW := Aside0.mk hw
            clear hw
            cases gk with
            | zero => omega
            | succ gk =>
            go_wp2_with (go_at_call 18; go_in)
            go_roundg gk
            case measure => omega
            case rel => exact ⟨i + 1, d0, d1, d2, d3, d4 + 1, d5, by rw [hw9.out], ⟨HC.out, by omega, HN.out 4 hgd.out (by unfold isP; omega), by rw [cnt_take l0 i HC.out, hgd.out]; simp; try exact (HD.out.1), by rw [cnt_take l0 i HC.out, hgd.out]; simp; try exact (HD.out.2.1), by rw [cnt_take l0 i HC.out, hgd.out]; simp; try exact (HD.out.2.2.1), by rw [cnt_take l0 i HC.out, hgd.out]; simp; try exact (HD.out.2.2.2.1), by rw [cnt_take l0 i HC.out, hgd.out]; simp; try exact (HD.out.2.2.2.2.1), by rw [cnt_take l0 i HC.out, hgd.out]; simp; try exact (HD.out.2.2.2.2.2)⟩, ⟨by rw [HW.out]; (with_reducible repeat (first | refine blk_drewN ?_ _ | refine blk_drew ?_ | refine blk_alloc ?_ _)); refine blk_put (cs := #[.int .i64 d0, .int .i64 d1, .int .i64 d2, .int .i64 d3, .int .i64 d4, .int .i64 d5]) ?_ 4 _ rfl; exact BK.out⟩, ⟨by repeat (first | exact HB.out | apply below_alloc | apply Below.drew | refine below_set ?_ (Nat.le_refl _))⟩⟩
          · have hw := (show wrap64 (d5 + 1) = d5 + 1 from wrap_small (by have := cnt_le l0 i 5; have := HD.out; have := HL.out; have := HC.out; omega) (by have := cnt_le l0 i 5; have := HD.out; have := HL.out; have := HC.out; omega))
            have HW := Aside0.mk hw
            clear hw
            cases gk with
            | zero => omega
            | succ gk =>
            go_wp2_with (go_at_call 18; go_in)
            go_roundg gk
            case measure => omega
            case rel => exact ⟨i + 1, d0, d1, d2, d3, d4, d5 + 1, by rw [hw9.out], ⟨HC.out, by omega, HN.out 5 hgd.out (by unfold isP; omega), by rw [cnt_take l0 i HC.out, hgd.out]; simp; try exact (HD.out.1), by rw [cnt_take l0 i HC.out, hgd.out]; simp; try exact (HD.out.2.1), by rw [cnt_take l0 i HC.out, hgd.out]; simp; try exact (HD.out.2.2.1), by rw [cnt_take l0 i HC.out, hgd.out]; simp; try exact (HD.out.2.2.2.1), by rw [cnt_take l0 i HC.out, hgd.out]; simp; try exact (HD.out.2.2.2.2.1), by rw [cnt_take l0 i HC.out, hgd.out]; simp; try exact (HD.out.2.2.2.2.2)⟩, ⟨by rw [HW.out]; (with_reducible repeat (first | refine blk_drewN ?_ _ | refine blk_drew ?_ | refine blk_alloc ?_ _)); refine blk_put (cs := #[.int .i64 d0, .int .i64 d1, .int .i64 d2, .int .i64 d3, .int .i64 d4, .int .i64 d5]) ?_ 5 _ rfl; exact BK.out⟩, ⟨by repeat (first | exact HB.out | apply below_alloc | apply Below.drew | refine below_set ?_ (Nat.le_refl _))⟩⟩
        · obtain rfl : r = false := by
            rw [← hr.out]; unfold fitsB
            rw [Bool.and_eq_false_iff]; left
            rw [List.all_eq_false]
            exact ⟨p, hmem.out, by simp [hph]⟩
          clear hr
          have hp' : p < 0 ∨ 6 ≤ p := by unfold isP at hph; omega
          clear hph
          rcases hp' with hp | hp
          · have c1 : decide (0 ≤ p) = false := decide_eq_false (by omega)
            clear hp
            go_wp2_with (go_at_call 18; go_in)
            go_ret
            exact ⟨rfl, by repeat (first | exact HB.out | apply below_alloc | apply Below.drew)⟩
          · have c1 : decide (0 ≤ p) = true := decide_eq_true (by omega)
            have c2 : decide (p < 6) = false := decide_eq_false (by omega)
            clear hp
            go_wp2_with (go_at_call 18; go_in)
            go_ret
            exact ⟨rfl, by repeat (first | exact HB.out | apply below_alloc | apply Below.drew)⟩
      · have hil : i = l0.length := by omega
        subst hil
        have HI' := HI.out
        rw [List.take_length] at HI'
        obtain ⟨_, _, hph, e0, e1, e2, e3, e4, e5⟩ := HI'
        have n0 := cnt_le l0 l0.length 0
        have n2 := cnt_le l0 l0.length 2
        have n4 := cnt_le l0 l0.length 4
        have n5 := cnt_le l0 l0.length 5
        rw [List.take_length] at n0 n2 n4 n5
        have hlen := HL.out
        have hall : l0.all (fun p => decide (isP p)) = true := List.all_eq_true.2 fun x hx => decide_eq_true (hph x hx)
        have hr' : (decide (d0 = 0 ∨ d0 + d5 = (l0.length : Int)) && decide (d2 + d4 ≤ 1)) = r := by rw [← hr.out]; unfold fitsB; rw [hall, e0, e5, e2, e4]; rfl
        have W1 := Aside0.mk (show wrap64 (d0 + d5) = d0 + d5 from wrap_small (by omega) (by omega))
        have W2 := Aside0.mk (show wrap64 (d2 + d4) = d2 + d4 from wrap_small (by omega) (by omega))
        have b0 : decide ((l0.length : Int) < (l0.length : Int)) = false := decide_eq_false (by omega)
        clear hph e0 e1 e2 e3 e4 e5 n0 n2 n4 n5 hall hr HI hlen hi1 hi2 c
        have HR := Aside0.mk hr'
        clear hr'
        by_cases p0 : d0 = 0
        · have q0 : (d0 == 0) = true := beq_iff_eq.2 p0
          by_cases p2 : d2 + d4 ≤ 1
          · have q2 : decide (wrap64 (d2 + d4) ≤ 1) = true := by rw [W2.out]; exact decide_eq_true p2
            obtain rfl : r = true := by rw [← HR.out]; simp [p0, p2]
            clear p0 p2
            go_wp2
            go_ret
            exact ⟨by rfl, by repeat (first | exact HB.out | apply below_alloc | apply Below.drew)⟩
          · have q2 : decide (wrap64 (d2 + d4) ≤ 1) = false := by rw [W2.out]; exact decide_eq_false p2
            obtain rfl : r = false := by rw [← HR.out]; simp [p2]
            clear p0 p2
            go_wp2
            go_ret
            exact ⟨by rfl, by repeat (first | exact HB.out | apply below_alloc | apply Below.drew)⟩
        · have q0 : (d0 == 0) = false := beq_eq_false_iff_ne.2 p0
          by_cases p5 : d0 + d5 = (l0.length : Int)
          · have q5 : (wrap64 (d0 + d5) == (l0.length : Int)) = true := by rw [W1.out]; exact beq_iff_eq.2 p5
            by_cases p2 : d2 + d4 ≤ 1
            · have q2 : decide (wrap64 (d2 + d4) ≤ 1) = true := by rw [W2.out]; exact decide_eq_true p2
              obtain rfl : r = true := by rw [← HR.out]; simp [p0, p2, p5]
              clear p0 p2 p5
              go_wp2
              go_ret
              exact ⟨by rfl, by repeat (first | exact HB.out | apply below_alloc | apply Below.drew)⟩
            · have q2 : decide (wrap64 (d2 + d4) ≤ 1) = false := by rw [W2.out]; exact decide_eq_false p2
              obtain rfl : r = false := by rw [← HR.out]; simp [p2]
              clear p0 p2 p5
              go_wp2
              go_ret
              exact ⟨by rfl, by repeat (first | exact HB.out | apply below_alloc | apply Below.drew)⟩
          · have q5 : (wrap64 (d0 + d5) == (l0.length : Int)) = false := by rw [W1.out]; exact beq_eq_false_iff_ne.2 p5
            obtain rfl : r = false := by rw [← HR.out]; simp [p0, p5]
            clear p0 p5
            go_wp2
            go_ret
            exact ⟨by rfl, by repeat (first | exact HB.out | apply below_alloc | apply Below.drew)⟩
  · rw [if_neg hl] at h; cases h
end Go.Proofs.YtpnofbiflaahhaaDoor.X
