/- The law ConfCheck, walked: whether any group may be is the document's. -/
import Derived.Test.YtomaojmccchibaaConfOfAny
import Derived.Test.YtomaojmccchibaaConfAwake
namespace Go.Proofs.Ytomaojmccchibaa.X
open Go.RowKit Go.Proofs.YtomaojmccchibaaW.PrintWords Go.Proofs.YtomaojmccchibaaW.PrintLast Go.Proofs.YtomaojmccchibaaW.PrintMore
set_option linter.unusedVariables false
set_option linter.unusedSimpArgs false

theorem BX.cells {A B : Option Addr} {n cn m cm : Nat} {x1 x2 x4 x5 x6 x7 x8 x9 x10 x11 x12 : Int} {g : Nat} {w : World} (h : BX A B n cn m cm x1 x2 x4 x5 x6 x7 x8 x9 x10 x11 x12 g w) : w.cell? ⟨g, 0, none⟩ = some (.slice A n cn) ∧ w.cell? ⟨g, 1, none⟩ = some (.int .i64 x1) ∧ w.cell? ⟨g, 2, none⟩ = some (.int .i64 x2) ∧ w.cell? ⟨g, 3, none⟩ = some (.slice B m cm) ∧ w.cell? ⟨g, 4, none⟩ = some (.int .i64 x4) ∧ w.cell? ⟨g, 5, none⟩ = some (.int .i64 x5) ∧ w.cell? ⟨g, 6, none⟩ = some (.int .i64 x6) ∧ w.cell? ⟨g, 7, none⟩ = some (.int .i64 x7) ∧ w.cell? ⟨g, 8, none⟩ = some (.int .i64 x8) ∧ w.cell? ⟨g, 9, none⟩ = some (.int .i64 x9) ∧ w.cell? ⟨g, 10, none⟩ = some (.int .i64 x10) ∧ w.cell? ⟨g, 11, none⟩ = some (.int .i64 x11) ∧ w.cell? ⟨g, 12, none⟩ = some (.int .i64 x12) :=
  ⟨(blk_cell h 0).trans rfl, (blk_cell h 1).trans rfl, (blk_cell h 2).trans rfl, (blk_cell h 3).trans rfl, (blk_cell h 4).trans rfl, (blk_cell h 5).trans rfl, (blk_cell h 6).trans rfl, (blk_cell h 7).trans rfl, (blk_cell h 8).trans rfl, (blk_cell h 9).trans rfl, (blk_cell h 10).trans rfl, (blk_cell h 11).trans rfl, (blk_cell h 12).trans rfl⟩
theorem ref_b (A B : Option Addr) (cn cm : Nat) (x1 x2 x4 x5 x6 x7 x8 x9 x10 x11 x12 : Int) (w : World) (l : List S38) (o : List Int) {r : Bool} (h : refV l x1 x2 o x4 x5 x6 x7 x8 x9 x10 x11 x12 = r) (hr : Kd.C k69 w A l.length (l.map toR)) (ho : Kd.C (Kd.int .i64) w B o.length o) (hl : l.length ≤ 12) (hol : o.length ≤ 100) :
    Calls Try.prog 20 #[confV A B l.length cn o.length cm x1 x2 x4 x5 x6 x7 x8 x9 x10 x11 x12] w fun e w' => e = .returned (.bool r) ∧ Below w.heap.size w w' := h ▸ ref_any A B cn cm x1 x2 x4 x5 x6 x7 x8 x9 x10 x11 x12 w l o hr ho hl hol
/-- The law's own group, as it was, in a later world. -/
def DD (A B : Option Addr) (n cn m cm : Nat) (x1 x2 x4 x5 x6 x7 x8 x9 x10 x11 x12 : Int) (w w' : World) : Prop :=
  BX A B n cn m cm x1 x2 x4 x5 x6 x7 x8 x9 x10 x11 x12 w.heap.size w' ∧ Below w.heap.size w w'
section
variable {A B : Option Addr} {n cn m cm : Nat} {x1 x2 x4 x5 x6 x7 x8 x9 x10 x11 x12 : Int} {w w' w2 : World}
theorem DD.below (h : DD A B n cn m cm x1 x2 x4 x5 x6 x7 x8 x9 x10 x11 x12 w w') (hb : Below w'.heap.size w' w2) : DD A B n cn m cm x1 x2 x4 x5 x6 x7 x8 x9 x10 x11 x12 w w2 := ⟨blk_below h.1 hb, below_step h.2 hb⟩
theorem DD.drew (h : DD A B n cn m cm x1 x2 x4 x5 x6 x7 x8 x9 x10 x11 x12 w w') : DD A B n cn m cm x1 x2 x4 x5 x6 x7 x8 x9 x10 x11 x12 w w'.drew := ⟨h.1, h.2.drew⟩
end
def paternosterlaw05_ConfCheck.f (l0_0 : List S38) (a0_1 : Int) (a0_2 : Int) (l0_3 : List Int) (a0_4 : Int) (a0_5 : Int) (a0_6 : Int) (a0_7 : Int) (a0_8 : Int) (a0_9 : Int) (a0_10 : Int) (a0_11 : Int) (a0_12 : Int) : Option Bool :=
  if l0_0.length ≤ 12 ∧ l0_3.length ≤ 100 then some (checkV l0_0 a0_1 a0_2 l0_3 a0_4 a0_5 a0_6 a0_7 a0_8 a0_9 a0_10 a0_11 a0_12 == refV l0_0 a0_1 a0_2 l0_3 a0_4 a0_5 a0_6 a0_7 a0_8 a0_9 a0_10 a0_11 a0_12) else some true
set_option maxRecDepth 100000 in
set_option maxHeartbeats 8000000 in
theorem paternosterlaw05_ConfCheck.calls (A0_0 : Option Addr) (c0_0 : Nat) (l0_0 : List S38) (a0_1 : Int) (a0_2 : Int) (A0_3 : Option Addr) (c0_3 : Nat) (l0_3 : List Int) (a0_4 : Int) (a0_5 : Int) (a0_6 : Int) (a0_7 : Int) (a0_8 : Int) (a0_9 : Int) (a0_10 : Int) (a0_11 : Int) (a0_12 : Int) (r : Bool) (w : World) (hr0_0 : Kd.C k38 w A0_0 l0_0.length l0_0) (hc0_0 : l0_0.length ≤ c0_0) (hr0_3 : Kd.C (Kd.int .i64) w A0_3 l0_3.length l0_3) (hc0_3 : l0_3.length ≤ c0_3) (h : paternosterlaw05_ConfCheck.f l0_0 a0_1 a0_2 l0_3 a0_4 a0_5 a0_6 a0_7 a0_8 a0_9 a0_10 a0_11 a0_12 = some r) :
    Calls Try.prog 3 #[.agg #[.slice A0_0 l0_0.length c0_0, .int .i64 a0_1, .int .i64 a0_2, .slice A0_3 l0_3.length c0_3, .int .i64 a0_4, .int .i64 a0_5, .int .i64 a0_6, .int .i64 a0_7, .int .i64 a0_8, .int .i64 a0_9, .int .i64 a0_10, .int .i64 a0_11, .int .i64 a0_12]] w fun e w' => e = .returned (.bool r) ∧ Below w.heap.size w w' := by
  unfold paternosterlaw05_ConfCheck.f at h
  have HR := Aside0.mk hr0_0
  have HC := Aside0.mk hc0_0
  have HO := Aside0.mk hr0_3
  have HCO := Aside0.mk hc0_3
  clear hr0_0 hc0_0 hr0_3 hc0_3
  have HX := Aside0.mk (show BX A0_0 A0_3 l0_0.length c0_0 l0_3.length c0_3 a0_1 a0_2 a0_4 a0_5 a0_6 a0_7 a0_8 a0_9 a0_10 a0_11 a0_12 w.heap.size (w.alloc (.cells #[.slice A0_0 l0_0.length c0_0, .int .i64 a0_1, .int .i64 a0_2, .slice A0_3 l0_3.length c0_3, .int .i64 a0_4, .int .i64 a0_5, .int .i64 a0_6, .int .i64 a0_7, .int .i64 a0_8, .int .i64 a0_9, .int .i64 a0_10, .int .i64 a0_11, .int .i64 a0_12] 25 (0, 0))) from blk_new w _)
  have HB := Aside0.mk (below_alloc (Below.refl w.heap.size w) (.cells #[.slice A0_0 l0_0.length c0_0, .int .i64 a0_1, .int .i64 a0_2, .slice A0_3 l0_3.length c0_3, .int .i64 a0_4, .int .i64 a0_5, .int .i64 a0_6, .int .i64 a0_7, .int .i64 a0_8, .int .i64 a0_9, .int .i64 a0_10, .int .i64 a0_11, .int .i64 a0_12] 25 (0, 0)))
  obtain ⟨s, hs⟩ : ∃ s, (decide (l0_0.length ≤ 12) && decide (l0_3.length ≤ 100)) = s := ⟨_, rfl⟩
  have HS := Aside0.mk ((small_f (l := l0_0) (x1 := a0_1) (x2 := a0_2) (o := l0_3) (x4 := a0_4) (x5 := a0_5) (x6 := a0_6) (x7 := a0_7) (x8 := a0_8) (x9 := a0_9) (x10 := a0_10) (x11 := a0_11) (x12 := a0_12)).trans (congrArg some hs))
  cases s with
  | false =>
    rw [if_neg (by intro h1; rw [decide_eq_true h1.1, decide_eq_true h1.2] at hs; cases hs)] at h
    obtain rfl := Option.some.inj h
    clear hs h
    go_enter Try.func3, Try.ntmps3
    go_wp2_with fail
    refine (paternosterlaw05_awake.calls true _ rfl).mono ?_
    rintro e w1 ⟨rfl, hb⟩
    replace HX := Aside0.mk (show BX A0_0 A0_3 l0_0.length c0_0 l0_3.length c0_3 a0_1 a0_2 a0_4 a0_5 a0_6 a0_7 a0_8 a0_9 a0_10 a0_11 a0_12 _ w1 from blk_below HX.out hb)
    replace HB := Aside0.mk (below_step HB.out hb)
    clear hb
    obtain ⟨c0, c1, c2, c3, c4, c5, c6, c7, c8, c9, c10, c11, c12⟩ := HX.out.cells
    go_wp2_with fail
    clear c0 c1 c2 c3 c4 c5 c6 c7 c8 c9 c10 c11 c12
    refine (paternosterlaw05_small.calls A0_0 c0_0 l0_0 a0_1 a0_2 A0_3 c0_3 l0_3 a0_4 a0_5 a0_6 a0_7 a0_8 a0_9 a0_10 a0_11 a0_12 false _ (Kd.C_below HR.out HB.out) HC.out (Kd.C_below HO.out HB.out) HCO.out HS.out).mono ?_
    rintro e w1 ⟨rfl, hb⟩
    replace HX := Aside0.mk (show BX A0_0 A0_3 l0_0.length c0_0 l0_3.length c0_3 a0_1 a0_2 a0_4 a0_5 a0_6 a0_7 a0_8 a0_9 a0_10 a0_11 a0_12 _ w1 from blk_below HX.out hb)
    replace HB := Aside0.mk (below_step HB.out hb)
    clear hb
    obtain ⟨c0, c1, c2, c3, c4, c5, c6, c7, c8, c9, c10, c11, c12⟩ := HX.out.cells
    go_wp2_with fail
    go_ret
    exact ⟨rfl, HB.out⟩
  | true =>
    simp only [Bool.and_eq_true, decide_eq_true_eq] at hs
    rw [if_pos hs] at h
    have HL := Aside0.mk hs
    have CF := Aside0.mk (chk_f (l := l0_0) (x1 := a0_1) (x2 := a0_2) (o := l0_3) (x4 := a0_4) (x5 := a0_5) (x6 := a0_6) (x7 := a0_7) (x8 := a0_8) (x9 := a0_9) (x10 := a0_10) (x11 := a0_11) (x12 := a0_12) hs.2)
    obtain ⟨p, hp⟩ : ∃ p, checkV l0_0 a0_1 a0_2 l0_3 a0_4 a0_5 a0_6 a0_7 a0_8 a0_9 a0_10 a0_11 a0_12 = p := ⟨_, rfl⟩
    rw [hp] at CF h
    obtain ⟨q, hq⟩ : ∃ q, refV l0_0 a0_1 a0_2 l0_3 a0_4 a0_5 a0_6 a0_7 a0_8 a0_9 a0_10 a0_11 a0_12 = q := ⟨_, rfl⟩
    rw [hq] at h
    have HQ := Aside0.mk hq
    obtain rfl := Option.some.inj h
    clear hs h hp hq
    go_enter Try.func3, Try.ntmps3
    go_wp2_with fail
    refine (paternosterlaw05_awake.calls true _ rfl).mono ?_
    rintro e w1 ⟨rfl, hb⟩
    replace HX := Aside0.mk (show BX A0_0 A0_3 l0_0.length c0_0 l0_3.length c0_3 a0_1 a0_2 a0_4 a0_5 a0_6 a0_7 a0_8 a0_9 a0_10 a0_11 a0_12 _ w1 from blk_below HX.out hb)
    replace HB := Aside0.mk (below_step HB.out hb)
    clear hb
    obtain ⟨c0, c1, c2, c3, c4, c5, c6, c7, c8, c9, c10, c11, c12⟩ := HX.out.cells
    go_wp2_with fail
    clear c0 c1 c2 c3 c4 c5 c6 c7 c8 c9 c10 c11 c12
    refine (paternosterlaw05_small.calls A0_0 c0_0 l0_0 a0_1 a0_2 A0_3 c0_3 l0_3 a0_4 a0_5 a0_6 a0_7 a0_8 a0_9 a0_10 a0_11 a0_12 true _ (Kd.C_below HR.out HB.out) HC.out (Kd.C_below HO.out HB.out) HCO.out HS.out).mono ?_
    rintro e w1 ⟨rfl, hb⟩
    replace HX := Aside0.mk (show BX A0_0 A0_3 l0_0.length c0_0 l0_3.length c0_3 a0_1 a0_2 a0_4 a0_5 a0_6 a0_7 a0_8 a0_9 a0_10 a0_11 a0_12 _ w1 from blk_below HX.out hb)
    replace HB := Aside0.mk (below_step HB.out hb)
    clear hb
    obtain ⟨c0, c1, c2, c3, c4, c5, c6, c7, c8, c9, c10, c11, c12⟩ := HX.out.cells
    go_wp2_with fail
    clear c0 c1 c2 c3 c4 c5 c6 c7 c8 c9 c10 c11 c12
    have HD := Aside0.mk (show DD A0_0 A0_3 l0_0.length c0_0 l0_3.length c0_3 a0_1 a0_2 a0_4 a0_5 a0_6 a0_7 a0_8 a0_9 a0_10 a0_11 a0_12 w w1.drew from ⟨HX.out, HB.out.drew⟩)
    have hC := HD.out.1.cells
    clear HX HB
    go_region_held3 (fun w' => (w'.cell? ⟨w.heap.size, 0, none⟩ = some (.slice A0_0 l0_0.length c0_0) ∧ w'.cell? ⟨w.heap.size, 1, none⟩ = some (.int .i64 a0_1) ∧ w'.cell? ⟨w.heap.size, 2, none⟩ = some (.int .i64 a0_2) ∧ w'.cell? ⟨w.heap.size, 3, none⟩ = some (.slice A0_3 l0_3.length c0_3) ∧ w'.cell? ⟨w.heap.size, 4, none⟩ = some (.int .i64 a0_4) ∧ w'.cell? ⟨w.heap.size, 5, none⟩ = some (.int .i64 a0_5) ∧ w'.cell? ⟨w.heap.size, 6, none⟩ = some (.int .i64 a0_6) ∧ w'.cell? ⟨w.heap.size, 7, none⟩ = some (.int .i64 a0_7) ∧ w'.cell? ⟨w.heap.size, 8, none⟩ = some (.int .i64 a0_8) ∧ w'.cell? ⟨w.heap.size, 9, none⟩ = some (.int .i64 a0_9) ∧ w'.cell? ⟨w.heap.size, 10, none⟩ = some (.int .i64 a0_10) ∧ w'.cell? ⟨w.heap.size, 11, none⟩ = some (.int .i64 a0_11) ∧ w'.cell? ⟨w.heap.size, 12, none⟩ = some (.int .i64 a0_12)) ∧ Aside0 (DD A0_0 A0_3 l0_0.length c0_0 l0_3.length c0_3 a0_1 a0_2 a0_4 a0_5 a0_6 a0_7 a0_8 a0_9 a0_10 a0_11 a0_12 w w'))
      (first | exact ⟨hC, HD⟩ | exact ⟨F.1.cells, Aside0.mk F⟩ | go_keep)
      (first
        | (go_at_call 19; refine (conf_Check.calls A0_0 c0_0 l0_0 a0_1 a0_2 A0_3 c0_3 l0_3 a0_4 a0_5 a0_6 a0_7 a0_8 a0_9 a0_10 a0_11 a0_12 p _ (Kd.C_below HR.out HD.out.2) HC.out (Kd.C_below HO.out HD.out.2) HCO.out CF.out).mono ?_; rintro e w2 ⟨rfl, hb⟩; have F := HD.out.below hb; clear hb)
        | (go_at_call 21; refine (of_any l0_0 a0_1 a0_2 l0_3 a0_4 a0_5 a0_6 a0_7 a0_8 a0_9 a0_10 a0_11 a0_12 A0_0 A0_3 c0_0 c0_3 _ (Kd.C_below HR.out F.2) HC.out (by (have := HL.out; omega))).mono ?_; rintro e w3 ⟨A', c', rfl, hc', hk', hb⟩; have n_ := F.below hb; clear F; have F := n_; clear n_ hb hc'; have HK' := Aside0.mk hk'; clear hk')
        | (go_at_call 20; refine (ref_b A' A0_3 c' c0_3 a0_1 a0_2 a0_4 a0_5 a0_6 a0_7 a0_8 a0_9 a0_10 a0_11 a0_12 _ l0_0 l0_3 HQ.out HK'.out (Kd.C_below HO.out F.2) HL.out.1 HL.out.2).mono ?_; rintro e w4 ⟨rfl, hb⟩; have n_ := F.below hb; clear F; have F := n_; clear n_ hb))
    go_wp2_with fail
    go_ret
    exact ⟨rfl, F.2⟩
end Go.Proofs.Ytomaojmccchibaa.X
