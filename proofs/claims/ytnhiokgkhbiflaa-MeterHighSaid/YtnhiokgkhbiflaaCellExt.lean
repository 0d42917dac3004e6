/- Contracts of cell.Spend and cell.Fill (their callee takes a closure that has captured a variable), in the shape of the printed contracts. -/
import Derived.Test.YtnhiokgkhbiflaaSatExt
import Derived.Test.YtnhiokgkhbiflaaXx2
namespace Go.Proofs.Ytnhiokgkhbiflaa.X
open Go.RowKit Go.Proofs.YtnhiokgkhbiflaaW.PrintWords Go.Proofs.YtnhiokgkhbiflaaW.PrintLast Go.Proofs.YtnhiokgkhbiflaaW.PrintMore
attribute [local go_sem] max2_int min2_int max_two min_two max_three min_three max_four min_four
set_option linter.unusedVariables false
set_option linter.unusedSimpArgs false

theorem add_any (a b : Int) (w : World) : Calls Try.prog 23 #[.int .i64 a, .int .i64 b] w fun e w' => e = .returned (.tuple #[.int .i64 (addV a b), .bool (addM a b)]) ∧ w = w' := by
  go_enter Try.func23, Try.ntmps23
  go_wp2_with (first | (go_at_call 38; refine (both_add _ _ _).mono ?_; rintro e w' ⟨rfl, rfl⟩))
  go_ret2
  exact ⟨rfl, rfl⟩

def downV (h n : Int) : Int := addV h (wrap64 (-(mx n 0)))
def downM (h n : Int) : Bool := addM h (wrap64 (-(mx n 0)))
theorem spend1_any (h n : Int) (b : Nat) (w : World) (hc : w.cell? ⟨b, 0, none⟩ = some (.int .i64 n)) :
    Calls Try.prog 36 #[.int .i64 h, .pointer (some ⟨b, 0, none⟩)] w fun e w' => e = .returned (.tuple #[.int .i64 (downV h n), .bool (downM h n)]) ∧ w = w' := by
  obtain ⟨m, hm⟩ : ∃ m, (if n < 0 then 0 else n) = m := ⟨_, rfl⟩
  have H := Aside0.mk (show mx n 0 = m by rw [← hm]; rfl)
  go_enter Try.func36, Try.ntmps36
  go_wp2_with (first | (go_at_call 23; refine (add_any _ _ _).mono ?_; rintro e w' ⟨rfl, rfl⟩))
  go_ret2
  exact ⟨by unfold downV downM; rw [H.out]; rfl, rfl⟩
def withV (n f : Int) : Int := mn (mx n 0) f
set_option maxHeartbeats 400000 in
theorem with_spend (h f n : Int) (b : Nat) (w : World) (hc : w.cell? ⟨b, 0, none⟩ = some (.int .i64 n)) :
    Calls Try.prog 35 #[.agg #[.int .i64 h, .int .i64 f], .func (.func 36) #[] #[.pointer (some ⟨b, 0, none⟩)]] w fun e w' =>
      e = .returned (.agg #[.int .i64 (withV (downV h n) f), .int .i64 f]) ∧ Below w.heap.size w w' := by
  obtain ⟨x, hx⟩ : ∃ x, downV h n = x := ⟨_, rfl⟩
  have HX := Aside0.mk hx
  clear hx
  obtain ⟨m, hm⟩ : ∃ m, (if x < 0 then 0 else x) = m := ⟨_, rfl⟩
  obtain ⟨y, hy⟩ : ∃ y, (if f < m then f else m) = y := ⟨_, rfl⟩
  have H := Aside0.mk (show withV x f = y by rw [← hy, ← hm]; rfl)
  have hc2 := pw_cell_below (below_alloc (below_alloc (Below.refl w.heap.size w) (.cells #[.int .i64 h, .int .i64 f] 25)) (.cells #[.int .i64 0, .int .i64 0] 25)) hc
  have HC := Aside0.mk hc2
  clear hc2 hc
  go_enter Try.func35, Try.ntmps35
  go_wp2_with (first | (go_at_call 36; refine (spend1_any _ _ _ _ HC.out).mono ?_; rw [HX.out]; rintro e w' ⟨rfl, rfl⟩))
  refine bodyPost_ret (v := .agg #[.int .i64 y, .int .i64 f]) (by simp [results, Try.results35, go_sem]) rfl ⟨by rw [HX.out, H.out], below_alloc (below_alloc (Below.refl _ _) _) _⟩

theorem bcell {W w1 : World} (hb : Below W.heap.size W w1) : (∀ b o, b < W.heap.size → w1.cell? ⟨b, o, none⟩ = W.cell? ⟨b, o, none⟩) ∧ (∀ b o, b < W.heap.size → w1.frozen? ⟨b, o, none⟩ = W.frozen? ⟨b, o, none⟩) :=
  ⟨fun b o h => hb.cell (p := ⟨b, o, none⟩) h, fun b o h => hb.frozen (p := ⟨b, o, none⟩) h⟩
def spendF (h f n : Int) : Int × Int × Bool := if n ≤ h then (withV (downV h n) f, f, true) else (h, f, false)
def cell_Cell_Spend.f (a0_0 : Int) (a0_1 : Int) (a1 : Int) : Option (Int × Int × Bool) := some (spendF a0_0 a0_1 a1)
set_option maxHeartbeats 400000 in
theorem cell_Cell_Spend.calls (a0_0 : Int) (a0_1 : Int) (a1 : Int) (r1 : Int) (r2 : Int) (r3 : Bool) (w : World) (h : cell_Cell_Spend.f a0_0 a0_1 a1 = some (r1, r2, r3)) :
    Calls Try.prog 17 #[.agg #[.int .i64 a0_0, .int .i64 a0_1], .int .i64 a1] w fun e w' => e = .returned (.tuple #[.agg #[.int .i64 r1, .int .i64 r2], .bool r3]) ∧ Below w.heap.size w w' := by
  simp only [cell_Cell_Spend.f, Option.some.injEq, spendF] at h
  by_cases hn : a1 ≤ a0_0
  · rw [if_pos hn] at h
    simp only [Prod.mk.injEq] at h
    obtain ⟨h1, rfl, rfl⟩ := h
    have H := Aside0.mk h1
    clear h1
    go_enter Try.func17, Try.ntmps17
    go_wp2_with (first | (go_at_call 21; go_in))
    refine (with_spend _ _ a1 _ _ (by go_simp)).mono ?_
    rintro e W1 ⟨rfl, hb⟩
    obtain ⟨hc, hf⟩ := bcell hb
    have hz : w.heap.size + 3 < W1.heap.size := by have := hb.size; simp at this; omega
    have HB := Aside0.mk hb
    clear hb
    rw [H.out]
    go_wp2
    refine bodyPost_ret (v := .tuple #[.agg #[.int .i64 r1, .int .i64 a0_1], .bool true]) (by simp [results, Try.results17, go_sem, hc, hz]) rfl ⟨rfl, by repeat (first | exact Below.refl _ _ | refine below_step ?_ HB.out | refine below_set ?_ (by omega) | apply below_alloc | apply pw_below_drewN | apply below_drew)⟩
  · rw [if_neg hn] at h
    simp only [Prod.mk.injEq] at h
    obtain ⟨rfl, rfl, rfl⟩ := h
    go_enter Try.func17, Try.ntmps17
    go_wp2_with (first | (go_at_call 21; go_in))
    refine bodyPost_ret (v := .tuple #[.agg #[.int .i64 a0_0, .int .i64 a0_1], .bool false]) (by simp [results, Try.results17, go_sem]) rfl ⟨rfl, by repeat (first | exact Below.refl _ _ | refine below_step ?_ HB.out | refine below_set ?_ (by omega) | apply below_alloc | apply pw_below_drewN | apply below_drew)⟩

def upV (h n : Int) : Int := addV h (mx n 0)
def upM (h n : Int) : Bool := addM h (mx n 0)
theorem fill1_any (h n : Int) (b : Nat) (w : World) (hc : w.cell? ⟨b, 0, none⟩ = some (.int .i64 n)) :
    Calls Try.prog 37 #[.int .i64 h, .pointer (some ⟨b, 0, none⟩)] w fun e w' => e = .returned (.tuple #[.int .i64 (upV h n), .bool (upM h n)]) ∧ w = w' := by
  obtain ⟨m, hm⟩ : ∃ m, (if n < 0 then 0 else n) = m := ⟨_, rfl⟩
  have H := Aside0.mk (show mx n 0 = m by rw [← hm]; rfl)
  go_enter Try.func37, Try.ntmps37
  go_wp2_with (first | (go_at_call 23; refine (add_any _ _ _).mono ?_; rintro e w' ⟨rfl, rfl⟩))
  go_ret2
  exact ⟨by unfold upV upM; rw [H.out]; rfl, rfl⟩
set_option maxHeartbeats 400000 in
theorem with_fill (h f n : Int) (b : Nat) (w : World) (hc : w.cell? ⟨b, 0, none⟩ = some (.int .i64 n)) :
    Calls Try.prog 35 #[.agg #[.int .i64 h, .int .i64 f], .func (.func 37) #[] #[.pointer (some ⟨b, 0, none⟩)]] w fun e w' =>
      e = .returned (.agg #[.int .i64 (withV (upV h n) f), .int .i64 f]) ∧ Below w.heap.size w w' := by
  obtain ⟨x, hx⟩ : ∃ x, upV h n = x := ⟨_, rfl⟩
  have HX := Aside0.mk hx
  clear hx
  obtain ⟨m, hm⟩ : ∃ m, (if x < 0 then 0 else x) = m := ⟨_, rfl⟩
  obtain ⟨y, hy⟩ : ∃ y, (if f < m then f else m) = y := ⟨_, rfl⟩
  have H := Aside0.mk (show withV x f = y by rw [← hy, ← hm]; rfl)
  have hc2 := pw_cell_below (below_alloc (below_alloc (Below.refl w.heap.size w) (.cells #[.int .i64 h, .int .i64 f] 25)) (.cells #[.int .i64 0, .int .i64 0] 25)) hc
  have HC := Aside0.mk hc2
  clear hc2 hc
  go_enter Try.func35, Try.ntmps35
  go_wp2_with (first | (go_at_call 37; refine (fill1_any _ _ _ _ HC.out).mono ?_; rw [HX.out]; rintro e w' ⟨rfl, rfl⟩))
  refine bodyPost_ret (v := .agg #[.int .i64 y, .int .i64 f]) (by simp [results, Try.results35, go_sem]) rfl ⟨by rw [HX.out, H.out], below_alloc (below_alloc (Below.refl _ _) _) _⟩
def cell_Cell_Fill.f (a0_0 : Int) (a0_1 : Int) (a1 : Int) : Option (Int × Int) := some (withV (upV a0_0 a1) a0_1, a0_1)
set_option maxHeartbeats 400000 in
theorem cell_Cell_Fill.calls (a0_0 : Int) (a0_1 : Int) (a1 : Int) (r1 : Int) (r2 : Int) (w : World) (h : cell_Cell_Fill.f a0_0 a0_1 a1 = some (r1, r2)) :
    Calls Try.prog 19 #[.agg #[.int .i64 a0_0, .int .i64 a0_1], .int .i64 a1] w fun e w' => e = .returned (.agg #[.int .i64 r1, .int .i64 r2]) ∧ Below w.heap.size w w' := by
  simp only [cell_Cell_Fill.f, Option.some.injEq, Prod.mk.injEq] at h
  obtain ⟨h1, rfl⟩ := h
  have H := Aside0.mk h1
  clear h1
  go_enter Try.func19, Try.ntmps19
  go_wp2_with fail
  refine (with_fill _ _ a1 _ _ (by go_simp)).mono ?_
  rintro e W1 ⟨rfl, hb⟩
  obtain ⟨hc, hf⟩ := bcell hb
  have hz : w.heap.size + 2 < W1.heap.size := by have := hb.size; simp at this; omega
  have HB := Aside0.mk hb
  clear hb
  rw [H.out]
  go_wp2
  refine bodyPost_ret (v := .agg #[.int .i64 r1, .int .i64 a0_1]) (by simp [results, Try.results19, go_sem, hc, hz]) rfl ⟨rfl, by repeat (first | exact Below.refl _ _ | refine below_step ?_ HB.out | refine below_set ?_ (by omega) | apply below_alloc | apply pw_below_drewN | apply below_drew)⟩

end Go.Proofs.Ytnhiokgkhbiflaa.X
