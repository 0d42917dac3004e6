/- The law ConfTells, walked: numbers of a group that may be are the document's. -/
import Derived.Test.YtomaojmccchibaaConfBase
import Derived.Test.YtomaojmccchibaaConfOfAny
import Derived.Test.YtomaojmccchibaaConfAwake
import Derived.Test.YtomaojmccchibaaConfTellsPlain
namespace Go.Proofs.Ytomaojmccchibaa.X
open Go.RowKit Go.Proofs.YtomaojmccchibaaW.PrintWords Go.Proofs.YtomaojmccchibaaW.PrintLast Go.Proofs.YtomaojmccchibaaW.PrintMore
set_option linter.unusedVariables false
set_option linter.unusedSimpArgs false

/-- The law's own group, and the reference's, in a later world. -/
def TT (A B A' : Option Addr) (n cn c' m cm : Nat) (x1 x2 x4 x5 x6 x7 x8 x9 x10 x11 x12 : Int) (l : List S38) (o : List Int) (g : Nat) (w w' : World) : Prop :=
  DD A B n cn m cm x1 x2 x4 x5 x6 x7 x8 x9 x10 x11 x12 w w' ∧ BC A' B n c' m cm x1 x2 x4 x5 x6 x7 x8 x9 x10 x11 x12 g w' ∧ Kd.C k69 w' A' (l.map toR).length (l.map toR)
section
variable {A B A' : Option Addr} {n cn c' m cm : Nat} {x1 x2 x4 x5 x6 x7 x8 x9 x10 x11 x12 : Int} {l : List S38} {o : List Int} {g : Nat} {w w' w2 : World}
theorem TT.below (h : TT A B A' n cn c' m cm x1 x2 x4 x5 x6 x7 x8 x9 x10 x11 x12 l o g w w') (hb : Below w'.heap.size w' w2) : TT A B A' n cn c' m cm x1 x2 x4 x5 x6 x7 x8 x9 x10 x11 x12 l o g w w2 := ⟨h.1.below hb, blk_below h.2.1 hb, Kd.C_below h.2.2 hb⟩
theorem TT.drew (h : TT A B A' n cn c' m cm x1 x2 x4 x5 x6 x7 x8 x9 x10 x11 x12 l o g w w') : TT A B A' n cn c' m cm x1 x2 x4 x5 x6 x7 x8 x9 x10 x11 x12 l o g w w'.drew := ⟨h.1.drew, h.2.1, h.2.2⟩
theorem TT.cells (h : TT A B A' n cn c' m cm x1 x2 x4 x5 x6 x7 x8 x9 x10 x11 x12 l o g w w') : (w'.cell? ⟨w.heap.size, 0, none⟩ = some (.slice A n cn) ∧ w'.cell? ⟨w.heap.size, 1, none⟩ = some (.int .i64 x1) ∧ w'.cell? ⟨w.heap.size, 2, none⟩ = some (.int .i64 x2) ∧ w'.cell? ⟨w.heap.size, 3, none⟩ = some (.slice B m cm) ∧ w'.cell? ⟨w.heap.size, 4, none⟩ = some (.int .i64 x4) ∧ w'.cell? ⟨w.heap.size, 5, none⟩ = some (.int .i64 x5) ∧ w'.cell? ⟨w.heap.size, 6, none⟩ = some (.int .i64 x6) ∧ w'.cell? ⟨w.heap.size, 7, none⟩ = some (.int .i64 x7) ∧ w'.cell? ⟨w.heap.size, 8, none⟩ = some (.int .i64 x8) ∧ w'.cell? ⟨w.heap.size, 9, none⟩ = some (.int .i64 x9) ∧ w'.cell? ⟨w.heap.size, 10, none⟩ = some (.int .i64 x10) ∧ w'.cell? ⟨w.heap.size, 11, none⟩ = some (.int .i64 x11) ∧ w'.cell? ⟨w.heap.size, 12, none⟩ = some (.int .i64 x12)) ∧ (w'.cell? ⟨g, 0, none⟩ = some (.slice A' n c') ∧ w'.cell? ⟨g, 1, none⟩ = some (.int .i64 x1) ∧ w'.cell? ⟨g, 2, none⟩ = some (.int .i64 x2) ∧ w'.cell? ⟨g, 3, none⟩ = some (.slice B m cm) ∧ w'.cell? ⟨g, 4, none⟩ = some (.int .i64 x4) ∧ w'.cell? ⟨g, 5, none⟩ = some (.int .i64 x5) ∧ w'.cell? ⟨g, 6, none⟩ = some (.int .i64 x6) ∧ w'.cell? ⟨g, 7, none⟩ = some (.int .i64 x7) ∧ w'.cell? ⟨g, 8, none⟩ = some (.int .i64 x8) ∧ w'.cell? ⟨g, 9, none⟩ = some (.int .i64 x9) ∧ w'.cell? ⟨g, 10, none⟩ = some (.int .i64 x10) ∧ w'.cell? ⟨g, 11, none⟩ = some (.int .i64 x11) ∧ w'.cell? ⟨g, 12, none⟩ = some (.int .i64 x12)) := ⟨h.1.1.cells, h.2.1.cells⟩
theorem refbank_b {r : Int} {k : Nat} (car : Int) (h : paternosterref05_Bank.f k (l.map toR) x1 x2 o x4 x5 x6 x7 x8 x9 x10 x11 x12 car = some r) (hr : Kd.C k69 w A' (l.map toR).length (l.map toR)) (hc : (l.map toR).length ≤ c') (ho : Kd.C (Kd.int .i64) w B o.length o) (hco : o.length ≤ cm) :
    Calls Try.prog 41 #[.agg #[.slice A' l.length c', .int .i64 x1, .int .i64 x2, .slice B o.length cm, .int .i64 x4, .int .i64 x5, .int .i64 x6, .int .i64 x7, .int .i64 x8, .int .i64 x9, .int .i64 x10, .int .i64 x11, .int .i64 x12], .int .i64 car] w fun e w' => e = .returned (.int .i64 r) ∧ Below w.heap.size w w' := by
  have := paternosterref05_Bank.calls k A' c' (l.map toR) x1 x2 B cm o x4 x5 x6 x7 x8 x9 x10 x11 x12 car r w hr hc ho hco h
  rwa [List.length_map] at this
theorem refcars_b {r : Int} {k : Nat} (h : paternosterref05_Cars.f k (l.map toR) x1 x2 o x4 x5 x6 x7 x8 x9 x10 x11 x12 = some r) (hr : Kd.C k69 w A' (l.map toR).length (l.map toR)) (hc : (l.map toR).length ≤ c') (ho : Kd.C (Kd.int .i64) w B o.length o) (hco : o.length ≤ cm) :
    Calls Try.prog 42 #[.agg #[.slice A' l.length c', .int .i64 x1, .int .i64 x2, .slice B o.length cm, .int .i64 x4, .int .i64 x5, .int .i64 x6, .int .i64 x7, .int .i64 x8, .int .i64 x9, .int .i64 x10, .int .i64 x11, .int .i64 x12]] w fun e w' => e = .returned (.int .i64 r) ∧ Below w.heap.size w w' := by
  have := paternosterref05_Cars.calls k A' c' (l.map toR) x1 x2 B cm o x4 x5 x6 x7 x8 x9 x10 x11 x12 r w hr hc ho hco h
  rwa [List.length_map] at this
theorem refmost_b {r : Int} {k : Nat} (h : paternosterref05_Most.f k (l.map toR) x1 x2 o x4 x5 x6 x7 x8 x9 x10 x11 x12 = some r) (hr : Kd.C k69 w A' (l.map toR).length (l.map toR)) (hc : (l.map toR).length ≤ c') (ho : Kd.C (Kd.int .i64) w B o.length o) (hco : o.length ≤ cm) :
    Calls Try.prog 43 #[.agg #[.slice A' l.length c', .int .i64 x1, .int .i64 x2, .slice B o.length cm, .int .i64 x4, .int .i64 x5, .int .i64 x6, .int .i64 x7, .int .i64 x8, .int .i64 x9, .int .i64 x10, .int .i64 x11, .int .i64 x12]] w fun e w' => e = .returned (.int .i64 r) ∧ Below w.heap.size w w' := by
  have := paternosterref05_Most.calls k A' c' (l.map toR) x1 x2 B cm o x4 x5 x6 x7 x8 x9 x10 x11 x12 r w hr hc ho hco h
  rwa [List.length_map] at this
theorem refrun_b {r : Int} (h : paternosterref05_Run.f (l.map toR) x1 x2 o x4 x5 x6 x7 x8 x9 x10 x11 x12 = some r) (hr : Kd.C k69 w A' (l.map toR).length (l.map toR)) (hc : (l.map toR).length ≤ c') (ho : Kd.C (Kd.int .i64) w B o.length o) (hco : o.length ≤ cm) :
    Calls Try.prog 45 #[.agg #[.slice A' l.length c', .int .i64 x1, .int .i64 x2, .slice B o.length cm, .int .i64 x4, .int .i64 x5, .int .i64 x6, .int .i64 x7, .int .i64 x8, .int .i64 x9, .int .i64 x10, .int .i64 x11, .int .i64 x12]] w fun e w' => e = .returned (.int .i64 r) ∧ Below w.heap.size w w' := by
  have := paternosterref05_Run.calls A' c' (l.map toR) x1 x2 B cm o x4 x5 x6 x7 x8 x9 x10 x11 x12 r w hr hc ho hco h
  rwa [List.length_map] at this
theorem reflimit_b {r : Int} {k : Nat} (b : Int) (h : paternosterref05_Limit.f k (l.map toR) x1 x2 o x4 x5 x6 x7 x8 x9 x10 x11 x12 b = some r) (hr : Kd.C k69 w A' (l.map toR).length (l.map toR)) (hc : (l.map toR).length ≤ c') (ho : Kd.C (Kd.int .i64) w B o.length o) (hco : o.length ≤ cm) :
    Calls Try.prog 47 #[.agg #[.slice A' l.length c', .int .i64 x1, .int .i64 x2, .slice B o.length cm, .int .i64 x4, .int .i64 x5, .int .i64 x6, .int .i64 x7, .int .i64 x8, .int .i64 x9, .int .i64 x10, .int .i64 x11, .int .i64 x12], .int .i64 b] w fun e w' => e = .returned (.int .i64 r) ∧ Below w.heap.size w w' := by
  have := paternosterref05_Limit.calls k A' c' (l.map toR) x1 x2 B cm o x4 x5 x6 x7 x8 x9 x10 x11 x12 b r w hr hc ho hco h
  rwa [List.length_map] at this
theorem refback_b {r : Int} (b : Int) (h : paternosterref05_Back.f (l.map toR) x1 x2 o x4 x5 x6 x7 x8 x9 x10 x11 x12 b = some r) (hr : Kd.C k69 w A' (l.map toR).length (l.map toR)) (hc : (l.map toR).length ≤ c') (ho : Kd.C (Kd.int .i64) w B o.length o) (hco : o.length ≤ cm) :
    Calls Try.prog 48 #[.agg #[.slice A' l.length c', .int .i64 x1, .int .i64 x2, .slice B o.length cm, .int .i64 x4, .int .i64 x5, .int .i64 x6, .int .i64 x7, .int .i64 x8, .int .i64 x9, .int .i64 x10, .int .i64 x11, .int .i64 x12], .int .i64 b] w fun e w' => e = .returned (.int .i64 r) ∧ Below w.heap.size w w' := by
  have := paternosterref05_Back.calls A' c' (l.map toR) x1 x2 B cm o x4 x5 x6 x7 x8 x9 x10 x11 x12 b r w hr hc ho hco h
  rwa [List.length_map] at this
end
def paternosterlaw05_ConfTells.f (l0_0 : List S38) (a0_1 : Int) (a0_2 : Int) (l0_3 : List Int) (a0_4 : Int) (a0_5 : Int) (a0_6 : Int) (a0_7 : Int) (a0_8 : Int) (a0_9 : Int) (a0_10 : Int) (a0_11 : Int) (a0_12 : Int) (a1 : Int) : Option Bool := some true
set_option maxRecDepth 100000 in
set_option maxHeartbeats 8000000 in
theorem paternosterlaw05_ConfTells.calls (A0_0 : Option Addr) (c0_0 : Nat) (l0_0 : List S38) (a0_1 : Int) (a0_2 : Int) (A0_3 : Option Addr) (c0_3 : Nat) (l0_3 : List Int) (a0_4 : Int) (a0_5 : Int) (a0_6 : Int) (a0_7 : Int) (a0_8 : Int) (a0_9 : Int) (a0_10 : Int) (a0_11 : Int) (a0_12 : Int) (a1 : Int) (r : Bool) (w : World) (hr0_0 : Kd.C k38 w A0_0 l0_0.length l0_0) (hc0_0 : l0_0.length ≤ c0_0) (hr0_3 : Kd.C (Kd.int .i64) w A0_3 l0_3.length l0_3) (hc0_3 : l0_3.length ≤ c0_3) (h : paternosterlaw05_ConfTells.f l0_0 a0_1 a0_2 l0_3 a0_4 a0_5 a0_6 a0_7 a0_8 a0_9 a0_10 a0_11 a0_12 a1 = some r) :
    Calls Try.prog 16 #[.agg #[.slice A0_0 l0_0.length c0_0, .int .i64 a0_1, .int .i64 a0_2, .slice A0_3 l0_3.length c0_3, .int .i64 a0_4, .int .i64 a0_5, .int .i64 a0_6, .int .i64 a0_7, .int .i64 a0_8, .int .i64 a0_9, .int .i64 a0_10, .int .i64 a0_11, .int .i64 a0_12], .int .i64 a1] w fun e w' => e = .returned (.bool r) ∧ Below w.heap.size w w' := by
  obtain rfl := Option.some.inj h
  clear h
  have HR := Aside0.mk hr0_0
  have HC := Aside0.mk hc0_0
  have HO := Aside0.mk hr0_3
  have HCO := Aside0.mk hc0_3
  clear hr0_0 hc0_0 hr0_3 hc0_3
  have HX := Aside0.mk (show BX A0_0 A0_3 l0_0.length c0_0 l0_3.length c0_3 a0_1 a0_2 a0_4 a0_5 a0_6 a0_7 a0_8 a0_9 a0_10 a0_11 a0_12 w.heap.size (w.alloc (.cells #[.slice A0_0 l0_0.length c0_0, .int .i64 a0_1, .int .i64 a0_2, .slice A0_3 l0_3.length c0_3, .int .i64 a0_4, .int .i64 a0_5, .int .i64 a0_6, .int .i64 a0_7, .int .i64 a0_8, .int .i64 a0_9, .int .i64 a0_10, .int .i64 a0_11, .int .i64 a0_12] 25 (0, 0))) from blk_new w _)
  have HB := Aside0.mk (below_alloc (Below.refl w.heap.size w) (.cells #[.slice A0_0 l0_0.length c0_0, .int .i64 a0_1, .int .i64 a0_2, .slice A0_3 l0_3.length c0_3, .int .i64 a0_4, .int .i64 a0_5, .int .i64 a0_6, .int .i64 a0_7, .int .i64 a0_8, .int .i64 a0_9, .int .i64 a0_10, .int .i64 a0_11, .int .i64 a0_12] 25 (0, 0)))
  obtain ⟨s, hs⟩ : ∃ s, (decide (l0_0.length ≤ 12) && decide (l0_3.length ≤ 100)) = s := ⟨_, rfl⟩
  have HS := Aside0.mk ((small_f (l := l0_0) (x1 := a0_1) (x2 := a0_2) (o := l0_3) (x4 := a0_4) (x5 := a0_5) (x6 := a0_6) (x7 := a0_7) (x8 := a0_8) (x9 := a0_9) (x10 := a0_10) (x11 := a0_11) (x12 := a0_12)).trans (congrArg some hs))
  cases s with
  | false =>
    clear hs
    go_enter Try.func16, Try.ntmps16
    go_wp2_with fail
    refine (paternosterlaw05_awake.calls true _ rfl).mono ?_
    rintro e w1 ⟨rfl, hb⟩
    replace HX := Aside0.mk (show BX A0_0 A0_3 l0_0.length c0_0 l0_3.length c0_3 a0_1 a0_2 a0_4 a0_5 a0_6 a0_7 a0_8 a0_9 a0_10 a0_11 a0_12 _ w1 from blk_below HX.out hb)
    replace HB := Aside0.mk (below_step HB.out hb)
    clear hb
    obtain ⟨c0, c1, c2, c3, c4, c5, c6, c7, c8, c9, c10, c11, c12⟩ := HX.out.cells
    go_wp2_with fail
    clear c0 c1 c2 c3 c4 c5 c6 c7 c8 c9 c10 c11 c12
    refine (paternosterlaw05_small.calls A0_0 c0_0 l0_0 a0_1 a0_2 A0_3 c0_3 l0_3 a0_4 a0_5 a0_6 a0_7 a0_8 a0_9 a0_10 a0_11 a0_12 false _ (Kd.C_below HR.out HB.out) HC.out (Kd.C_below HO.out HB.out) HCO.out HS.out).mono ?_
    rintro e w1 ⟨rfl, hb⟩
    replace HX := Aside0.mk (show BX A0_0 A0_3 l0_0.length c0_0 l0_3.length c0_3 a0_1 a0_2 a0_4 a0_5 a0_6 a0_7 a0_8 a0_9 a0_10 a0_11 a0_12 _ w1 from blk_below HX.out hb)
    replace HB := Aside0.mk (below_step HB.out hb)
    clear hb
    obtain ⟨c0, c1, c2, c3, c4, c5, c6, c7, c8, c9, c10, c11, c12⟩ := HX.out.cells
    go_wp2_with fail
    go_ret
    exact ⟨rfl, HB.out⟩
  | true =>
    simp only [Bool.and_eq_true, decide_eq_true_eq] at hs
    have HL := Aside0.mk hs
    obtain ⟨p, hp⟩ : ∃ p, checkV l0_0 a0_1 a0_2 l0_3 a0_4 a0_5 a0_6 a0_7 a0_8 a0_9 a0_10 a0_11 a0_12 = p := ⟨_, rfl⟩
    have CF := Aside0.mk ((chk_f (l := l0_0) (x1 := a0_1) (x2 := a0_2) (o := l0_3) (x4 := a0_4) (x5 := a0_5) (x6 := a0_6) (x7 := a0_7) (x8 := a0_8) (x9 := a0_9) (x10 := a0_10) (x11 := a0_11) (x12 := a0_12) hs.2).trans (congrArg some hp))
    cases p with
    | false =>
      clear hs hp
      go_enter Try.func16, Try.ntmps16
      go_wp2_with fail
      refine (paternosterlaw05_awake.calls true _ rfl).mono ?_
      rintro e w1 ⟨rfl, hb⟩
      replace HX := Aside0.mk (show BX A0_0 A0_3 l0_0.length c0_0 l0_3.length c0_3 a0_1 a0_2 a0_4 a0_5 a0_6 a0_7 a0_8 a0_9 a0_10 a0_11 a0_12 _ w1 from blk_below HX.out hb)
      replace HB := Aside0.mk (below_step HB.out hb)
      clear hb
      obtain ⟨c0, c1, c2, c3, c4, c5, c6, c7, c8, c9, c10, c11, c12⟩ := HX.out.cells
      go_wp2_with fail
      clear c0 c1 c2 c3 c4 c5 c6 c7 c8 c9 c10 c11 c12
      refine (paternosterlaw05_small.calls A0_0 c0_0 l0_0 a0_1 a0_2 A0_3 c0_3 l0_3 a0_4 a0_5 a0_6 a0_7 a0_8 a0_9 a0_10 a0_11 a0_12 true _ (Kd.C_below HR.out HB.out) HC.out (Kd.C_below HO.out HB.out) HCO.out HS.out).mono ?_
      rintro e w1 ⟨rfl, hb⟩
      replace HX := Aside0.mk (show BX A0_0 A0_3 l0_0.length c0_0 l0_3.length c0_3 a0_1 a0_2 a0_4 a0_5 a0_6 a0_7 a0_8 a0_9 a0_10 a0_11 a0_12 _ w1 from blk_below HX.out hb)
      replace HB := Aside0.mk (below_step HB.out hb)
      clear hb
      obtain ⟨c0, c1, c2, c3, c4, c5, c6, c7, c8, c9, c10, c11, c12⟩ := HX.out.cells
      go_wp2_with fail
      clear c0 c1 c2 c3 c4 c5 c6 c7 c8 c9 c10 c11 c12
      refine (conf_Check.calls A0_0 c0_0 l0_0 a0_1 a0_2 A0_3 c0_3 l0_3 a0_4 a0_5 a0_6 a0_7 a0_8 a0_9 a0_10 a0_11 a0_12 false _ (Kd.C_below HR.out HB.out) HC.out (Kd.C_below HO.out HB.out) HCO.out CF.out).mono ?_
      rintro e w1 ⟨rfl, hb⟩
      replace HX := Aside0.mk (show BX A0_0 A0_3 l0_0.length c0_0 l0_3.length c0_3 a0_1 a0_2 a0_4 a0_5 a0_6 a0_7 a0_8 a0_9 a0_10 a0_11 a0_12 _ w1 from blk_below HX.out hb)
      replace HB := Aside0.mk (below_step HB.out hb)
      clear hb
      obtain ⟨c0, c1, c2, c3, c4, c5, c6, c7, c8, c9, c10, c11, c12⟩ := HX.out.cells
      go_wp2_with fail
      go_ret
      exact ⟨rfl, HB.out⟩
    | true =>
      have HG := Aside0.mk (check_iff.1 hp)
      clear hs hp
      go_enter Try.func16, Try.ntmps16
      go_wp2_with fail
      refine (paternosterlaw05_awake.calls true _ rfl).mono ?_
      rintro e w1 ⟨rfl, hb⟩
      replace HX := Aside0.mk (show BX A0_0 A0_3 l0_0.length c0_0 l0_3.length c0_3 a0_1 a0_2 a0_4 a0_5 a0_6 a0_7 a0_8 a0_9 a0_10 a0_11 a0_12 _ w1 from blk_below HX.out hb)
      replace HB := Aside0.mk (below_step HB.out hb)
      clear hb
      obtain ⟨c0, c1, c2, c3, c4, c5, c6, c7, c8, c9, c10, c11, c12⟩ := HX.out.cells
      go_wp2_with fail
      clear c0 c1 c2 c3 c4 c5 c6 c7 c8 c9 c10 c11 c12
      refine (paternosterlaw05_small.calls A0_0 c0_0 l0_0 a0_1 a0_2 A0_3 c0_3 l0_3 a0_4 a0_5 a0_6 a0_7 a0_8 a0_9 a0_10 a0_11 a0_12 true _ (Kd.C_below HR.out HB.out) HC.out (Kd.C_below HO.out HB.out) HCO.out HS.out).mono ?_
      rintro e w1 ⟨rfl, hb⟩
      replace HX := Aside0.mk (show BX A0_0 A0_3 l0_0.length c0_0 l0_3.length c0_3 a0_1 a0_2 a0_4 a0_5 a0_6 a0_7 a0_8 a0_9 a0_10 a0_11 a0_12 _ w1 from blk_below HX.out hb)
      replace HB := Aside0.mk (below_step HB.out hb)
      clear hb
      obtain ⟨c0, c1, c2, c3, c4, c5, c6, c7, c8, c9, c10, c11, c12⟩ := HX.out.cells
      go_wp2_with fail
      clear c0 c1 c2 c3 c4 c5 c6 c7 c8 c9 c10 c11 c12
      refine (conf_Check.calls A0_0 c0_0 l0_0 a0_1 a0_2 A0_3 c0_3 l0_3 a0_4 a0_5 a0_6 a0_7 a0_8 a0_9 a0_10 a0_11 a0_12 true _ (Kd.C_below HR.out HB.out) HC.out (Kd.C_below HO.out HB.out) HCO.out CF.out).mono ?_
      rintro e w1 ⟨rfl, hb⟩
      replace HX := Aside0.mk (show BX A0_0 A0_3 l0_0.length c0_0 l0_3.length c0_3 a0_1 a0_2 a0_4 a0_5 a0_6 a0_7 a0_8 a0_9 a0_10 a0_11 a0_12 _ w1 from blk_below HX.out hb)
      replace HB := Aside0.mk (below_step HB.out hb)
      clear hb
      obtain ⟨c0, c1, c2, c3, c4, c5, c6, c7, c8, c9, c10, c11, c12⟩ := HX.out.cells
      go_wp2_with fail
      clear c0 c1 c2 c3 c4 c5 c6 c7 c8 c9 c10 c11 c12
      refine (of_any l0_0 a0_1 a0_2 l0_3 a0_4 a0_5 a0_6 a0_7 a0_8 a0_9 a0_10 a0_11 a0_12 A0_0 A0_3 c0_0 c0_3 _ (Kd.C_below HR.out HB.out) HC.out (by have := HL.out; omega)).mono ?_
      rintro e w1 ⟨A', c', rfl, hc', hk', hb⟩
      have HK' := Aside0.mk hk'
      have HC' := Aside0.mk (show (l0_0.map toR).length ≤ c' by rw [List.length_map]; exact hc')
      replace HX := Aside0.mk (show BX A0_0 A0_3 l0_0.length c0_0 l0_3.length c0_3 a0_1 a0_2 a0_4 a0_5 a0_6 a0_7 a0_8 a0_9 a0_10 a0_11 a0_12 _ w1 from blk_below HX.out hb)
      replace HB := Aside0.mk (below_step HB.out hb)
      clear hb hc' hk'
      obtain ⟨c0, c1, c2, c3, c4, c5, c6, c7, c8, c9, c10, c11, c12⟩ := HX.out.cells
      unfold confV
      go_wp2_with fail
      obtain ⟨g, hg⟩ : ∃ g, w1.heap.size = g := ⟨_, rfl⟩
      have HT := Aside0.mk (show TT A0_0 A0_3 A' l0_0.length c0_0 c' l0_3.length c0_3 a0_1 a0_2 a0_4 a0_5 a0_6 a0_7 a0_8 a0_9 a0_10 a0_11 a0_12 l0_0 l0_3 g w (w1.alloc (.cells #[.slice A' l0_0.length c', .int .i64 a0_1, .int .i64 a0_2, .slice A0_3 l0_3.length c0_3, .int .i64 a0_4, .int .i64 a0_5, .int .i64 a0_6, .int .i64 a0_7, .int .i64 a0_8, .int .i64 a0_9, .int .i64 a0_10, .int .i64 a0_11, .int .i64 a0_12] 31 (0, 0))) from ⟨⟨blk_below HX.out (below_alloc (Below.refl _ _) _), below_alloc HB.out _⟩, hg ▸ blk_new w1 _, Kd.C_below (by rw [List.length_map]; exact HK'.out) (below_alloc (Below.refl _ _) _)⟩)
      rw [hg]
      clear hg c0 c1 c2 c3 c4 c5 c6 c7 c8 c9 c10 c11 c12 HX HB HK'
      generalize w1.alloc (.cells #[.slice A' l0_0.length c', .int .i64 a0_1, .int .i64 a0_2, .slice A0_3 l0_3.length c0_3, .int .i64 a0_4, .int .i64 a0_5, .int .i64 a0_6, .int .i64 a0_7, .int .i64 a0_8, .int .i64 a0_9, .int .i64 a0_10, .int .i64 a0_11, .int .i64 a0_12] 31 (0, 0)) = w2 at HT ⊢
      go_loopw [8] (fun v wr => ∃ car : Int, (-1 ≤ car ∧ car ≤ 65) ∧ v = .int .i64 car ∧ Aside0 (TT A0_0 A0_3 A' l0_0.length c0_0 c' l0_3.length c0_3 a0_1 a0_2 a0_4 a0_5 a0_6 a0_7 a0_8 a0_9 a0_10 a0_11 a0_12 l0_0 l0_3 g w wr)) (fun v _ => (65 - intOf v).toNat)
      case atStart => exact ⟨-1, by omega, rfl, HT⟩
      case round =>
        clear HT
        obtain ⟨car, ⟨hcar1, hcar2⟩, rfl, HT⟩ := hrel
        by_cases hlt : car ≤ 64
        · obtain ⟨v, hv1, hv2⟩ := HG.out.bank_both car hlt
          have B1 := Aside0.mk hv1
          have B2 := Aside0.mk hv2
          clear hv1 hv2
          have hvv : (v != v) = false := by simp
          have HD := Aside0.mk HT.out.drew
          have hC := HD.out.cells
          clear HT
          go_wp2_with fail
          go_region_held3 (fun w' => ((w'.cell? ⟨w.heap.size, 0, none⟩ = some (.slice A0_0 l0_0.length c0_0) ∧ w'.cell? ⟨w.heap.size, 1, none⟩ = some (.int .i64 a0_1) ∧ w'.cell? ⟨w.heap.size, 2, none⟩ = some (.int .i64 a0_2) ∧ w'.cell? ⟨w.heap.size, 3, none⟩ = some (.slice A0_3 l0_3.length c0_3) ∧ w'.cell? ⟨w.heap.size, 4, none⟩ = some (.int .i64 a0_4) ∧ w'.cell? ⟨w.heap.size, 5, none⟩ = some (.int .i64 a0_5) ∧ w'.cell? ⟨w.heap.size, 6, none⟩ = some (.int .i64 a0_6) ∧ w'.cell? ⟨w.heap.size, 7, none⟩ = some (.int .i64 a0_7) ∧ w'.cell? ⟨w.heap.size, 8, none⟩ = some (.int .i64 a0_8) ∧ w'.cell? ⟨w.heap.size, 9, none⟩ = some (.int .i64 a0_9) ∧ w'.cell? ⟨w.heap.size, 10, none⟩ = some (.int .i64 a0_10) ∧ w'.cell? ⟨w.heap.size, 11, none⟩ = some (.int .i64 a0_11) ∧ w'.cell? ⟨w.heap.size, 12, none⟩ = some (.int .i64 a0_12)) ∧ (w'.cell? ⟨g, 0, none⟩ = some (.slice A' l0_0.length c') ∧ w'.cell? ⟨g, 1, none⟩ = some (.int .i64 a0_1) ∧ w'.cell? ⟨g, 2, none⟩ = some (.int .i64 a0_2) ∧ w'.cell? ⟨g, 3, none⟩ = some (.slice A0_3 l0_3.length c0_3) ∧ w'.cell? ⟨g, 4, none⟩ = some (.int .i64 a0_4) ∧ w'.cell? ⟨g, 5, none⟩ = some (.int .i64 a0_5) ∧ w'.cell? ⟨g, 6, none⟩ = some (.int .i64 a0_6) ∧ w'.cell? ⟨g, 7, none⟩ = some (.int .i64 a0_7) ∧ w'.cell? ⟨g, 8, none⟩ = some (.int .i64 a0_8) ∧ w'.cell? ⟨g, 9, none⟩ = some (.int .i64 a0_9) ∧ w'.cell? ⟨g, 10, none⟩ = some (.int .i64 a0_10) ∧ w'.cell? ⟨g, 11, none⟩ = some (.int .i64 a0_11) ∧ w'.cell? ⟨g, 12, none⟩ = some (.int .i64 a0_12))) ∧ Aside0 (TT A0_0 A0_3 A' l0_0.length c0_0 c' l0_3.length c0_3 a0_1 a0_2 a0_4 a0_5 a0_6 a0_7 a0_8 a0_9 a0_10 a0_11 a0_12 l0_0 l0_3 g w w'))
            (first | exact ⟨hC, HD⟩ | exact ⟨F.cells, Aside0.mk F⟩ | go_keep)
            (first
              | (go_at_call 23; refine (conf_Conf_Bank.calls 100 A0_0 c0_0 l0_0 a0_1 a0_2 A0_3 c0_3 l0_3 a0_4 a0_5 a0_6 a0_7 a0_8 a0_9 a0_10 a0_11 a0_12 car v _ (Kd.C_below HR.out HD.out.1.2) HC.out (Kd.C_below HO.out HD.out.1.2) HCO.out B1.out).mono ?_; rintro e w3 ⟨rfl, hb⟩; have F := HD.out.below hb; clear hb)
              | (go_at_call 41; refine (refbank_b car B2.out F.2.2 HC'.out (Kd.C_below HO.out F.1.2) HCO.out).mono ?_; rintro e w4 ⟨rfl, hb⟩; have n_ := F.below hb; clear F; have F := n_; clear n_ hb))
          go_wp2_with fail
          go_roundw
          case rel => exact ⟨car + 1, by omega, by go_num, Aside0.mk F⟩
          case measure => simp [intOf]; omega
        · obtain rfl : car = 65 := by omega
          clear hcar1 hcar2 hlt
          have F := HT.out.drew
          clear HT
          have bw1 := HG.out.width.1
          have bw2 := HG.out.width.2
          have bs1 := HG.out.saves_le.1
          have bs2 := HG.out.saves_le.2
          have V1 := Aside0.mk (HG.out.cars_f 200 (by omega))
          have V2 := Aside0.mk (HG.out.rcars_f 200 (by omega))
          obtain ⟨mv, hmv⟩ : ∃ m, mostV l0_0 = m := ⟨_, rfl⟩
          have V3 := Aside0.mk (show conf_Most.f l0_0 a0_1 a0_2 l0_3 a0_4 a0_5 a0_6 a0_7 a0_8 a0_9 a0_10 a0_11 a0_12 = some mv by unfold conf_Most.f; rw [if_pos (by have := HL.out; omega), hmv])
          have V4 := Aside0.mk ((HG.out.rmost_f 200 (by omega)).trans (congrArg some hmv))
          obtain ⟨rv, hrv⟩ : ∃ m, 8 * a0_1 - 7 = m := ⟨_, rfl⟩
          have V5 := Aside0.mk ((HG.out.run_f 200 (by omega)).trans (congrArg some hrv))
          have V6 := Aside0.mk (HG.out.rrun_f.trans (congrArg some hrv))
          have V7 := Aside0.mk (HG.out.doors_f 200 (by omega))
          have V8 := Aside0.mk (HG.out.saves_f 200 (by omega))
          obtain ⟨lv, hlv⟩ : ∃ m, sumC l0_0 * (8 * a0_1 + 2 * a0_5 - 1) + stp a1 + a0_7 + a0_8 + a0_9 + 10 = m := ⟨_, rfl⟩
          have V9 := Aside0.mk ((HG.out.limit_f 200 (by omega) a1).trans (congrArg some hlv))
          have V10 := Aside0.mk ((HG.out.rlimit_f 200 (by omega) a1).trans (congrArg some hlv))
          obtain ⟨bv, hbv⟩ : ∃ m, a0_7 + 8 * a0_1 + 3 * a0_5 + 2 * a0_8 + stp a1 + 23 = m := ⟨_, rfl⟩
          have V11 := Aside0.mk ((HG.out.back_f 200 (by omega) a1).trans (congrArg some hbv))
          have V12 := Aside0.mk ((HG.out.rback_f a1).trans (congrArg some hbv))
          obtain ⟨cv, hcv⟩ : ∃ m, sumC l0_0 = m := ⟨_, rfl⟩
          rw [hcv] at V1 V2
          obtain ⟨dv, hdv⟩ : ∃ m, a0_5 + 1 = m := ⟨_, rfl⟩
          obtain ⟨sv1, hsv1⟩ : ∃ m, 8 + a0_5 = m := ⟨_, rfl⟩
          obtain ⟨sv, hsv⟩ : ∃ m, a0_11 * sv1 = m := ⟨_, rfl⟩
          rw [hsv1, hsv] at bs1 bs2 V8
          rw [hdv] at V7
          have e1 : IntKind.i64.wrap (a0_5 + 1) = dv := by rw [IntKind.wrap_i64]; omega
          have e2 : IntKind.i64.wrap (8 + a0_5) = sv1 := by rw [IntKind.wrap_i64]; omega
          have e3 : IntKind.i64.wrap (a0_11 * sv1) = sv := by rw [IntKind.wrap_i64, hsv]; omega
          have f1 : wrap64 (a0_5 + 1) = dv := by rw [w64 (by omega) (by omega), hdv]
          have f2 : wrap64 (8 + a0_5) = sv1 := by rw [w64 (by omega) (by omega), hsv1]
          have f3 : wrap64 (a0_11 * sv1) = sv := by rw [hsv, w64 (by omega) (by omega)]
          clear hmv hrv hlv hbv hcv hdv hsv1 hsv bw1 bw2 bs1 bs2
          go_wp2_with fail
          try simp only [List.append_eq, List.cons_append, List.nil_append]
          go_region_held3 (fun w' => ((w'.cell? ⟨w.heap.size, 0, none⟩ = some (.slice A0_0 l0_0.length c0_0) ∧ w'.cell? ⟨w.heap.size, 1, none⟩ = some (.int .i64 a0_1) ∧ w'.cell? ⟨w.heap.size, 2, none⟩ = some (.int .i64 a0_2) ∧ w'.cell? ⟨w.heap.size, 3, none⟩ = some (.slice A0_3 l0_3.length c0_3) ∧ w'.cell? ⟨w.heap.size, 4, none⟩ = some (.int .i64 a0_4) ∧ w'.cell? ⟨w.heap.size, 5, none⟩ = some (.int .i64 a0_5) ∧ w'.cell? ⟨w.heap.size, 6, none⟩ = some (.int .i64 a0_6) ∧ w'.cell? ⟨w.heap.size, 7, none⟩ = some (.int .i64 a0_7) ∧ w'.cell? ⟨w.heap.size, 8, none⟩ = some (.int .i64 a0_8) ∧ w'.cell? ⟨w.heap.size, 9, none⟩ = some (.int .i64 a0_9) ∧ w'.cell? ⟨w.heap.size, 10, none⟩ = some (.int .i64 a0_10) ∧ w'.cell? ⟨w.heap.size, 11, none⟩ = some (.int .i64 a0_11) ∧ w'.cell? ⟨w.heap.size, 12, none⟩ = some (.int .i64 a0_12)) ∧ (w'.cell? ⟨g, 0, none⟩ = some (.slice A' l0_0.length c') ∧ w'.cell? ⟨g, 1, none⟩ = some (.int .i64 a0_1) ∧ w'.cell? ⟨g, 2, none⟩ = some (.int .i64 a0_2) ∧ w'.cell? ⟨g, 3, none⟩ = some (.slice A0_3 l0_3.length c0_3) ∧ w'.cell? ⟨g, 4, none⟩ = some (.int .i64 a0_4) ∧ w'.cell? ⟨g, 5, none⟩ = some (.int .i64 a0_5) ∧ w'.cell? ⟨g, 6, none⟩ = some (.int .i64 a0_6) ∧ w'.cell? ⟨g, 7, none⟩ = some (.int .i64 a0_7) ∧ w'.cell? ⟨g, 8, none⟩ = some (.int .i64 a0_8) ∧ w'.cell? ⟨g, 9, none⟩ = some (.int .i64 a0_9) ∧ w'.cell? ⟨g, 10, none⟩ = some (.int .i64 a0_10) ∧ w'.cell? ⟨g, 11, none⟩ = some (.int .i64 a0_11) ∧ w'.cell? ⟨g, 12, none⟩ = some (.int .i64 a0_12))) ∧ Aside0 (TT A0_0 A0_3 A' l0_0.length c0_0 c' l0_3.length c0_3 a0_1 a0_2 a0_4 a0_5 a0_6 a0_7 a0_8 a0_9 a0_10 a0_11 a0_12 l0_0 l0_3 g w w'))
            (first | exact ⟨F.cells, Aside0.mk F⟩ | go_keep)
            (first
              | (go_at_call 22; refine (conf_Cars.calls 200 A0_0 c0_0 l0_0 a0_1 a0_2 A0_3 c0_3 l0_3 a0_4 a0_5 a0_6 a0_7 a0_8 a0_9 a0_10 a0_11 a0_12 cv _ (Kd.C_below HR.out F.1.2) HC.out (Kd.C_below HO.out F.1.2) HCO.out V1.out).mono ?_; rintro e w3 ⟨rfl, hb⟩; have n_ := F.below hb; clear F; have F := n_; clear n_ hb)
              | (go_at_call 42; refine (refcars_b V2.out F.2.2 HC'.out (Kd.C_below HO.out F.1.2) HCO.out).mono ?_; rintro e w3 ⟨rfl, hb⟩; have n_ := F.below hb; clear F; have F := n_; clear n_ hb)
              | (go_at_call 40; refine (conf_Most.calls A0_0 c0_0 l0_0 a0_1 a0_2 A0_3 c0_3 l0_3 a0_4 a0_5 a0_6 a0_7 a0_8 a0_9 a0_10 a0_11 a0_12 mv _ (Kd.C_below HR.out F.1.2) HC.out (Kd.C_below HO.out F.1.2) HCO.out V3.out).mono ?_; rintro e w3 ⟨rfl, hb⟩; have n_ := F.below hb; clear F; have F := n_; clear n_ hb)
              | (go_at_call 43; refine (refmost_b V4.out F.2.2 HC'.out (Kd.C_below HO.out F.1.2) HCO.out).mono ?_; rintro e w3 ⟨rfl, hb⟩; have n_ := F.below hb; clear F; have F := n_; clear n_ hb)
              | (go_at_call 44; refine (conf_Run.calls 200 A0_0 c0_0 l0_0 a0_1 a0_2 A0_3 c0_3 l0_3 a0_4 a0_5 a0_6 a0_7 a0_8 a0_9 a0_10 a0_11 a0_12 rv _ (Kd.C_below HR.out F.1.2) HC.out (Kd.C_below HO.out F.1.2) HCO.out V5.out).mono ?_; rintro e w3 ⟨rfl, hb⟩; have n_ := F.below hb; clear F; have F := n_; clear n_ hb)
              | (go_at_call 45; refine (refrun_b V6.out F.2.2 HC'.out (Kd.C_below HO.out F.1.2) HCO.out).mono ?_; rintro e w3 ⟨rfl, hb⟩; have n_ := F.below hb; clear F; have F := n_; clear n_ hb)
              | (go_at_call 46; refine (conf_Doors.calls 200 A0_0 c0_0 l0_0 a0_1 a0_2 A0_3 c0_3 l0_3 a0_4 a0_5 a0_6 a0_7 a0_8 a0_9 a0_10 a0_11 a0_12 dv _ (Kd.C_below HR.out F.1.2) HC.out (Kd.C_below HO.out F.1.2) HCO.out V7.out).mono ?_; rintro e w3 ⟨rfl, hb⟩; have n_ := F.below hb; clear F; have F := n_; clear n_ hb)
              | (go_at_call 26; refine (conf_Saves.calls 200 A0_0 c0_0 l0_0 a0_1 a0_2 A0_3 c0_3 l0_3 a0_4 a0_5 a0_6 a0_7 a0_8 a0_9 a0_10 a0_11 a0_12 sv _ (Kd.C_below HR.out F.1.2) HC.out (Kd.C_below HO.out F.1.2) HCO.out V8.out).mono ?_; rintro e w3 ⟨rfl, hb⟩; have n_ := F.below hb; clear F; have F := n_; clear n_ hb)
              | (go_at_call 24; refine (conf_Limit.calls 200 A0_0 c0_0 l0_0 a0_1 a0_2 A0_3 c0_3 l0_3 a0_4 a0_5 a0_6 a0_7 a0_8 a0_9 a0_10 a0_11 a0_12 a1 lv _ (Kd.C_below HR.out F.1.2) HC.out (Kd.C_below HO.out F.1.2) HCO.out V9.out).mono ?_; rintro e w3 ⟨rfl, hb⟩; have n_ := F.below hb; clear F; have F := n_; clear n_ hb)
              | (go_at_call 47; refine (reflimit_b a1 V10.out F.2.2 HC'.out (Kd.C_below HO.out F.1.2) HCO.out).mono ?_; rintro e w3 ⟨rfl, hb⟩; have n_ := F.below hb; clear F; have F := n_; clear n_ hb)
              | (go_at_call 25; refine (conf_Back.calls 200 A0_0 c0_0 l0_0 a0_1 a0_2 A0_3 c0_3 l0_3 a0_4 a0_5 a0_6 a0_7 a0_8 a0_9 a0_10 a0_11 a0_12 a1 bv _ (Kd.C_below HR.out F.1.2) HC.out (Kd.C_below HO.out F.1.2) HCO.out V11.out).mono ?_; rintro e w3 ⟨rfl, hb⟩; have n_ := F.below hb; clear F; have F := n_; clear n_ hb)
              | (go_at_call 48; refine (refback_b a1 V12.out F.2.2 HC'.out (Kd.C_below HO.out F.1.2) HCO.out).mono ?_; rintro e w3 ⟨rfl, hb⟩; have n_ := F.below hb; clear F; have F := n_; clear n_ hb))
          go_wp2_with fail
          go_ret
          exact ⟨rfl, F.1.2⟩
end Go.Proofs.Ytomaojmccchibaa.X
