/- The reference's check of a group, walked. -/
import Derived.Test.YtomaojmccchibaaConfM2
import Derived.Test.YtomaojmccchibaaXx12
namespace Go.Proofs.Ytomaojmccchibaa.X
open Go.RowKit Go.Proofs.YtomaojmccchibaaW.PrintWords Go.Proofs.YtomaojmccchibaaW.PrintLast Go.Proofs.YtomaojmccchibaaW.PrintMore
set_option linter.unusedVariables false
set_option linter.unusedSimpArgs false

/-- A bank as the reference has it. -/
def toR (b : S38) : S69 := ⟨b.f0, ⟨b.f1.f0, b.f1.f1, b.f1.f2, b.f1.f3, b.f1.f4, b.f1.f5⟩⟩
theorem rdT_toR {l : List S38} {k : Nat} (hk : k < l.length) : rd_T69 (l.map toR) (k : Int) = toR (rd_T38 l (k : Int)) := by
  rw [rdT_at hk]
  unfold rd_T69
  rw [List.getD_eq_getElem?_getD, Int.toNat_natCast, List.getElem?_map, List.getElem?_eq_getElem hk]; rfl
set_option maxHeartbeats 2000000 in
theorem rr_f (b : S38) : paternosterref05_rates.f b.f1.f0 b.f1.f1 b.f1.f2 b.f1.f3 b.f1.f4 b.f1.f5 = some (decide (Ok b.f1)) := by
  unfold paternosterref05_rates.f
  by_cases hk : Ok b.f1
  · rw [decide_eq_true hk]
    unfold Ok at hk
    repeat' split
    all_goals (first | rfl | (refine congrArg some ?_; rw [decide_eq_true_eq]; omega) | (exfalso; omega))
  · rw [decide_eq_false hk]
    unfold Ok at hk
    repeat' split
    all_goals (first | rfl | (refine congrArg some ?_; rw [decide_eq_false_iff_not]; omega) | (exfalso; omega))
theorem wait_f (x : Int) : paternosterref05_wait.f x = some (inV x 1 200) := by
  unfold paternosterref05_wait.f inV
  split
  all_goals (refine congrArg some ?_; rw [Bool.eq_iff_iff]; simp; omega)
theorem inV_f {x a b : Int} (h : ¬ (a ≤ x ∧ x ≤ b)) : inV x a b = false := by
  rw [← Bool.not_eq_true, inV_t]; exact h
theorem carsV_succ {l : List S38} {k : Nat} (h : k < l.length) : carsV (l.take (k + 1)) = wrap64 (carsV (l.take k) + (rd_T38 l (k : Int)).f0) := by
  unfold carsV
  rw [List.take_succ_eq_append_getElem h, List.foldl_append, rdT_at h]; rfl
/-- Whether each car stands in the order once. -/
def onceV (o : List Int) (n : Nat) : Bool := (List.range n).all fun c => decide (o.count (c : Int) = 1)
theorem onceV_succ (o : List Int) (n : Nat) : onceV o (n + 1) = (onceV o n && decide (o.count (n : Int) = 1)) := by
  unfold onceV
  rw [List.range_succ, List.all_append]; simp
theorem onceV_f {o : List Int} {n c : Nat} (hc : c < n) (h : o.count (c : Int) ≠ 1) : onceV o n = false := by
  rw [← Bool.not_eq_true]
  intro h1
  have := List.all_eq_true.1 h1 c (List.mem_range.2 hc)
  exact h (by simpa using this)
theorem count_succ {o : List Int} {k : Nat} (hk : k < o.length) (c : Int) : (o.take (k + 1)).count c = (o.take k).count c + if rd o (k : Int) = c then 1 else 0 := by
  rw [rdI_take hk, List.count_append, List.count_singleton]
  congr 1
  by_cases h : rd o (k : Int) = c <;> simp [h]
/-- Whether a group may be, as the reference tells it. -/
def refV (l : List S38) (x1 x2 : Int) (o : List Int) (x4 x5 x6 x7 x8 x9 x10 x11 x12 : Int) : Bool :=
  inV l.length 1 8 && (!l.any badB && (inV x1 2 32 && (inV x2 0 (x1 - 1) && (decide ((o.length : Int) = carsV l) && (onceV o (carsV l).toNat && (inV x4 1 8 && (inV x5 1 16 && (inV x6 1 200 && (inV x7 1 200 && (inV x8 1 200 && (inV x10 1 200 && (inV x9 0 8 && (inV x11 0 100 && inV x12 0 1048576)))))))))))))
/-- The block of a group that the reference got. -/
def BC (A B : Option Addr) (n cn m cm : Nat) (x1 x2 x4 x5 x6 x7 x8 x9 x10 x11 x12 : Int) (g : Nat) (w : World) : Prop :=
  w.heap[g]? = some (.cells #[.slice A n cn, .int .i64 x1, .int .i64 x2, .slice B m cm, .int .i64 x4, .int .i64 x5, .int .i64 x6, .int .i64 x7, .int .i64 x8, .int .i64 x9, .int .i64 x10, .int .i64 x11, .int .i64 x12] 31 (0, 0))
theorem BC.cells {A B : Option Addr} {n cn m cm : Nat} {x1 x2 x4 x5 x6 x7 x8 x9 x10 x11 x12 : Int} {g : Nat} {w : World} (h : BC A B n cn m cm x1 x2 x4 x5 x6 x7 x8 x9 x10 x11 x12 g w) : w.cell? ⟨g, 0, none⟩ = some (.slice A n cn) ∧ w.cell? ⟨g, 1, none⟩ = some (.int .i64 x1) ∧ w.cell? ⟨g, 2, none⟩ = some (.int .i64 x2) ∧ w.cell? ⟨g, 3, none⟩ = some (.slice B m cm) ∧ w.cell? ⟨g, 4, none⟩ = some (.int .i64 x4) ∧ w.cell? ⟨g, 5, none⟩ = some (.int .i64 x5) ∧ w.cell? ⟨g, 6, none⟩ = some (.int .i64 x6) ∧ w.cell? ⟨g, 7, none⟩ = some (.int .i64 x7) ∧ w.cell? ⟨g, 8, none⟩ = some (.int .i64 x8) ∧ w.cell? ⟨g, 9, none⟩ = some (.int .i64 x9) ∧ w.cell? ⟨g, 10, none⟩ = some (.int .i64 x10) ∧ w.cell? ⟨g, 11, none⟩ = some (.int .i64 x11) ∧ w.cell? ⟨g, 12, none⟩ = some (.int .i64 x12) :=
  ⟨(blk_cell h 0).trans rfl, (blk_cell h 1).trans rfl, (blk_cell h 2).trans rfl, (blk_cell h 3).trans rfl, (blk_cell h 4).trans rfl, (blk_cell h 5).trans rfl, (blk_cell h 6).trans rfl, (blk_cell h 7).trans rfl, (blk_cell h 8).trans rfl, (blk_cell h 9).trans rfl, (blk_cell h 10).trans rfl, (blk_cell h 11).trans rfl, (blk_cell h 12).trans rfl⟩
section
variable (A B : Option Addr) (cn cm : Nat) (x1 x2 x4 x5 x6 x7 x8 x9 x10 x11 x12 : Int) (w : World) (l : List S38) (o : List Int)
set_option maxRecDepth 100000 in
set_option maxHeartbeats 8000000 in
theorem ref_any (hr : Kd.C k69 w A l.length (l.map toR)) (ho : Kd.C (Kd.int .i64) w B o.length o) (hl : l.length ≤ 12) (hol : o.length ≤ 100) :
    Calls Try.prog 20 #[confV A B l.length cn o.length cm x1 x2 x4 x5 x6 x7 x8 x9 x10 x11 x12] w fun e w' => e = .returned (.bool (refV l x1 x2 o x4 x5 x6 x7 x8 x9 x10 x11 x12)) ∧ Below w.heap.size w w' := by
  obtain ⟨v, hv⟩ : ∃ v, refV l x1 x2 o x4 x5 x6 x7 x8 x9 x10 x11 x12 = v := ⟨_, rfl⟩
  rw [hv]
  have HV := Aside0.mk hv
  have HR := Aside0.mk hr
  have HO := Aside0.mk ho
  clear hv hr ho
  unfold confV
  have HB0 := Aside0.mk (below_alloc (Below.refl w.heap.size w) (.cells #[.slice A l.length cn, .int .i64 x1, .int .i64 x2, .slice B o.length cm, .int .i64 x4, .int .i64 x5, .int .i64 x6, .int .i64 x7, .int .i64 x8, .int .i64 x9, .int .i64 x10, .int .i64 x11, .int .i64 x12] 31 (0, 0)))
  have HX0 := Aside0.mk (show BC A B l.length cn o.length cm x1 x2 x4 x5 x6 x7 x8 x9 x10 x11 x12 w.heap.size (w.alloc (.cells #[.slice A l.length cn, .int .i64 x1, .int .i64 x2, .slice B o.length cm, .int .i64 x4, .int .i64 x5, .int .i64 x6, .int .i64 x7, .int .i64 x8, .int .i64 x9, .int .i64 x10, .int .i64 x11, .int .i64 x12] 31 (0, 0))) from blk_new w _)
  by_cases h1 : (l.length : Int) < 1
  · obtain rfl : v = false := HV.out.symm.trans (by unfold refV; rw [inV_f (x := (l.length : Int)) (a := 1) (b := 8) (by omega)]; rfl)
    clear HX0
    go_enter Try.func20, Try.ntmps20
    go_wp2_with fail
    go_ret
    exact ⟨rfl, HB0.out⟩
  by_cases h2 : (l.length : Int) > 8
  · obtain rfl : v = false := HV.out.symm.trans (by unfold refV; rw [inV_f (x := (l.length : Int)) (a := 1) (b := 8) (by omega)]; rfl)
    clear HX0
    go_enter Try.func20, Try.ntmps20
    go_wp2_with fail
    go_ret
    exact ⟨rfl, HB0.out⟩
  go_enter Try.func20, Try.ntmps20
  go_wp2_with fail
  obtain ⟨g, hg⟩ : ∃ g, w.heap.size = g := ⟨_, rfl⟩
  rw [hg] at HX0 ⊢
  obtain ⟨W0, hW⟩ : ∃ W0, w.alloc (.cells #[.slice A l.length cn, .int .i64 x1, .int .i64 x2, .slice B o.length cm, .int .i64 x4, .int .i64 x5, .int .i64 x6, .int .i64 x7, .int .i64 x8, .int .i64 x9, .int .i64 x10, .int .i64 x11, .int .i64 x12] 31 (0, 0)) = W0 := ⟨_, rfl⟩
  rw [hW] at HX0 HB0 ⊢
  clear hg
  have HL := Aside0.mk (show 1 ≤ l.length ∧ l.length ≤ 8 by omega)
  clear hW h1 h2
  go_loopw [3, 4] (fun nv i wr => ∃ k : Nat, k ≤ l.length ∧ nv = .int .i64 (carsV (l.take k)) ∧ i = .int .i64 k ∧ Aside0 ((l.take k).any badB = false) ∧ Aside0 (BC A B l.length cn o.length cm x1 x2 x4 x5 x6 x7 x8 x9 x10 x11 x12 g wr) ∧ Aside0 (Below w.heap.size w wr)) (fun _ i _ => l.length - (intOf i).toNat)
  case atStart => exact ⟨0, Nat.zero_le _, rfl, rfl, ⟨rfl⟩, HX0, HB0⟩
  case round =>
    clear HX0 HB0
    obtain ⟨k, hk, rfl, rfl, HA, HX, HB⟩ := hrel
    have q2 : (k : Int) < 1000 := by omega
    have p1 : 0 ≤ (k : Int) := Int.natCast_nonneg _
    by_cases hlt : k < l.length
    · have q1 : (k : Int) < (l.length : Int) := by omega
      obtain ⟨ad, e1, hx0, hx1, hx2, hx3, hx4, hx5, hx6⟩ := at_T69 HR.out (k : Int) p1 q1
      cases e1
      rw [rdT_toR hlt] at hx0 hx1 hx2 hx3 hx4 hx5 hx6
      have HS := Aside0.mk (carsV_succ hlt)
      have HN := Aside0.mk (any_succ (f := badB) hlt)
      rw [← rdT_at hlt] at HN
      obtain ⟨b, hbk⟩ : ∃ b, rd_T38 l (k : Int) = b := ⟨_, rfl⟩
      have HM := Aside0.mk (show b ∈ l by rw [← hbk, rdT_at hlt]; exact List.getElem_mem hlt)
      rw [hbk] at hx0 hx1 hx2 hx3 hx4 hx5 hx6 HS HN
      rw [Int.toNat_natCast] at hx0 hx1 hx2 hx3 hx4 hx5 hx6
      obtain ⟨n, hn⟩ : ∃ n, carsV (l.take k) = n := ⟨_, rfl⟩
      rw [hn] at HS ⊢
      clear hn hbk
      replace hx0 : w.cell? (ad.add (k * 7)) = some (.int .i64 b.f0) := hx0
      replace hx1 : w.cell? (⟨(ad.add (k * 7)).block, (ad.add (k * 7)).off + 1, none⟩) = some (.int .i64 b.f1.f0) := hx1
      replace hx2 : w.cell? (⟨(ad.add (k * 7)).block, (ad.add (k * 7)).off + 2, none⟩) = some (.int .i64 b.f1.f1) := hx2
      replace hx3 : w.cell? (⟨(ad.add (k * 7)).block, (ad.add (k * 7)).off + 3, none⟩) = some (.int .i64 b.f1.f2) := hx3
      replace hx4 : w.cell? (⟨(ad.add (k * 7)).block, (ad.add (k * 7)).off + 4, none⟩) = some (.int .i64 b.f1.f3) := hx4
      replace hx5 : w.cell? (⟨(ad.add (k * 7)).block, (ad.add (k * 7)).off + 5, none⟩) = some (.int .i64 b.f1.f4) := hx5
      replace hx6 : w.cell? (⟨(ad.add (k * 7)).block, (ad.add (k * 7)).off + 6, none⟩) = some (.int .i64 b.f1.f5) := hx6
      have HX0 := Aside0.mk hx0
      have HXA := Aside0.mk (show ∀ W, Below w.heap.size w W → W.cell? (ad.add (k * 7)) = some (.int .i64 b.f0) ∧ W.cell? ⟨(ad.add (k * 7)).block, (ad.add (k * 7)).off + 1, none⟩ = some (.int .i64 b.f1.f0) ∧ W.cell? ⟨(ad.add (k * 7)).block, (ad.add (k * 7)).off + 2, none⟩ = some (.int .i64 b.f1.f1) ∧ W.cell? ⟨(ad.add (k * 7)).block, (ad.add (k * 7)).off + 3, none⟩ = some (.int .i64 b.f1.f2) ∧ W.cell? ⟨(ad.add (k * 7)).block, (ad.add (k * 7)).off + 4, none⟩ = some (.int .i64 b.f1.f3) ∧ W.cell? ⟨(ad.add (k * 7)).block, (ad.add (k * 7)).off + 5, none⟩ = some (.int .i64 b.f1.f4) ∧ W.cell? ⟨(ad.add (k * 7)).block, (ad.add (k * 7)).off + 6, none⟩ = some (.int .i64 b.f1.f5) from fun W h => ⟨(h.cell (World.block_lt_of_cell? w _ hx0)).trans hx0, (h.cell (World.block_lt_of_cell? w _ hx1)).trans hx1, (h.cell (World.block_lt_of_cell? w _ hx2)).trans hx2, (h.cell (World.block_lt_of_cell? w _ hx3)).trans hx3, (h.cell (World.block_lt_of_cell? w _ hx4)).trans hx4, (h.cell (World.block_lt_of_cell? w _ hx5)).trans hx5, (h.cell (World.block_lt_of_cell? w _ hx6)).trans hx6⟩)
      clear hx0 hx1 hx2 hx3 hx4 hx5 hx6
      obtain ⟨hx0, hx1, hx2, hx3, hx4, hx5, hx6⟩ := HXA.out _ HB.out
      obtain ⟨c0, c1, c2, c3, c4, c5, c6, c7, c8, c9, c10, c11, c12⟩ := HX.out.cells
      obtain ⟨q, hq⟩ : ∃ q, decide (Ok b.f1) = q := ⟨_, rfl⟩
      have RQ := Aside0.mk ((rr_f b).trans (congrArg some hq))
      have HQ := Aside0.mk hq
      clear hq
      go_wp2_with fail
      refine (paternosterref05_rates.calls _ _ _ _ _ _ q _ RQ.out).mono ?_
      rintro e w2 ⟨rfl, hb⟩
      have HX2 := Aside0.mk (show BC (some ad) B l.length cn o.length cm x1 x2 x4 x5 x6 x7 x8 x9 x10 x11 x12 g w2 from blk_below HX.out hb)
      have HB2 := Aside0.mk (show Below w.heap.size w w2 from below_step HB.out hb)
      clear hb hx0 hx1 hx2 hx3 hx4 hx5 hx6 c0 c1 c2 c3 c4 c5 c6 c7 c8 c9 c10 c11 c12
      obtain ⟨hx0, hx1, hx2, hx3, hx4, hx5, hx6⟩ := HXA.out _ HB2.out
      obtain ⟨c0, c1, c2, c3, c4, c5, c6, c7, c8, c9, c10, c11, c12⟩ := HX2.out.cells
      by_cases k1 : b.f0 < 1
      · obtain rfl : v = false := HV.out.symm.trans (by unfold refV; rw [List.any_eq_true.2 ⟨b, HM.out, by unfold badB; rw [inV_f (x := b.f0) (a := 1) (b := 8) (by omega)]; rfl⟩]; simp)
        go_wp2_with fail
        go_ret
        exact ⟨rfl, HB2.out⟩
      by_cases k2 : b.f0 > 8
      · obtain rfl : v = false := HV.out.symm.trans (by unfold refV; rw [List.any_eq_true.2 ⟨b, HM.out, by unfold badB; rw [inV_f (x := b.f0) (a := 1) (b := 8) (by omega)]; rfl⟩]; simp)
        go_wp2_with fail
        go_ret
        exact ⟨rfl, HB2.out⟩
      cases q with
      | false =>
        obtain rfl : v = false := HV.out.symm.trans (by unfold refV; rw [List.any_eq_true.2 ⟨b, HM.out, by unfold badB; rw [HQ.out]; simp⟩]; simp)
        go_wp2_with fail
        go_ret
        exact ⟨rfl, HB2.out⟩
      | true =>
        have HA2 := Aside0.mk (show (l.take (k + 1)).any badB = false by
          rw [HN.out, HA.out]
          unfold badB
          rw [HQ.out, inV_t.2 ⟨by omega, by omega⟩]; rfl)
        go_wp2_with fail
        go_roundw
        case rel => exact ⟨k + 1, by omega, by rw [HS.out], by go_num, HA2, HX2, HB2⟩
        case measure => simp [intOf]; omega
    · obtain rfl : k = l.length := by omega
      rw [List.take_length] at HA ⊢
      obtain ⟨c0, c1, c2, c3, c4, c5, c6, c7, c8, c9, c10, c11, c12⟩ := HX.out.cells
      obtain ⟨n, hn⟩ : ∃ n, carsV l = n := ⟨_, rfl⟩
      have HN := Aside0.mk hn
      rw [hn]
      clear hn
      have hkd : ¬ (l.length : Int) < (l.length : Int) := by omega
      by_cases m1 : x1 < 2
      · obtain rfl : v = false := HV.out.symm.trans (by unfold refV; rw [inV_f (x := x1) (a := 2) (b := 32) (by omega)]; simp)
        go_wp2_with fail
        go_ret
        exact ⟨rfl, HB.out⟩
      by_cases m2 : x1 > 32
      · obtain rfl : v = false := HV.out.symm.trans (by unfold refV; rw [inV_f (x := x1) (a := 2) (b := 32) (by omega)]; simp)
        go_wp2_with fail
        go_ret
        exact ⟨rfl, HB.out⟩
      by_cases m3 : x2 < 0
      · obtain rfl : v = false := HV.out.symm.trans (by unfold refV; rw [inV_f (x := x2) (a := 0) (b := x1 - 1) (by omega)]; simp)
        go_wp2_with fail
        go_ret
        exact ⟨rfl, HB.out⟩
      by_cases m4 : x2 ≥ x1
      · obtain rfl : v = false := HV.out.symm.trans (by unfold refV; rw [inV_f (x := x2) (a := 0) (b := x1 - 1) (by omega)]; simp)
        go_wp2_with fail
        go_ret
        exact ⟨rfl, HB.out⟩
      by_cases m5 : (o.length : Int) = n
      rotate_left
      · obtain rfl : v = false := HV.out.symm.trans (by unfold refV; rw [HN.out, decide_eq_false m5]; simp)
        go_wp2_with fail
        go_ret
        exact ⟨rfl, HB.out⟩
      subst m5
      go_wp2_with fail
      have HF := Aside0.mk (show (2 ≤ x1 ∧ x1 ≤ 32) ∧ 0 ≤ x2 ∧ x2 ≤ x1 - 1 by omega)
      clear m1 m2 m3 m4 c0 c1 c2 c3 c4 c5 c6 c7 c8 c9 c10 c11 c12
      go_loopw [6] (fun i wr => ∃ c : Nat, c ≤ o.length ∧ i = .int .i64 c ∧ Aside0 (onceV o c = true) ∧ Aside0 (BC A B l.length cn o.length cm x1 x2 x4 x5 x6 x7 x8 x9 x10 x11 x12 g wr) ∧ Aside0 (Below w.heap.size w wr)) (fun i _ => o.length - (intOf i).toNat)
      case atStart => exact ⟨0, Nat.zero_le _, rfl, ⟨rfl⟩, HX, HB⟩
      case round =>
        clear HX HB
        obtain ⟨c, hc, rfl, HC, HX, HB⟩ := hrel
        obtain ⟨c0, c1, c2, c3, c4, c5, c6, c7, c8, c9, c10, c11, c12⟩ := HX.out.cells
        by_cases hclt : c < o.length
        · have r1 : (c : Int) < (o.length : Int) := by omega
          have r2 : (c : Int) < 1000 := by omega
          have r3 : 0 ≤ (c : Int) := Int.natCast_nonneg _
          go_wp2_with fail
          clear c0 c1 c2 c3 c4 c5 c6 c7 c8 c9 c10 c11 c12
          obtain ⟨wo, hwo⟩ : ∃ wo : World, wo = wr := ⟨_, rfl⟩
          go_loopw [7, 8] (fun tv i wr => ∃ k : Nat, k ≤ o.length ∧ tv = .int .i64 ((o.take k).count (c : Int) : Nat) ∧ i = .int .i64 k ∧ Aside0 (BC A B l.length cn o.length cm x1 x2 x4 x5 x6 x7 x8 x9 x10 x11 x12 g wr) ∧ Aside0 (Below w.heap.size w wr)) (fun _ i _ => o.length - (intOf i).toNat)
          case atStart => exact ⟨0, Nat.zero_le _, by simp, rfl, HX, HB⟩
          case round =>
            clear HX HB
            obtain ⟨k, hk, rfl, rfl, HX, HB⟩ := hrel
            obtain ⟨c0, c1, c2, c3, c4, c5, c6, c7, c8, c9, c10, c11, c12⟩ := HX.out.cells
            have s1 : 0 ≤ (k : Int) := Int.natCast_nonneg _
            have s2 : (k : Int) < 1000 := by omega
            by_cases hklt : k < o.length
            · have s3 : (k : Int) < (o.length : Int) := by omega
              obtain ⟨ad, e1, hx⟩ := Kd.at_int HO.out (k : Int) s1 s3
              cases e1
              replace hx := (HB.out.cell (World.block_lt_of_cell? w _ hx)).trans hx
              rw [Int.toNat_natCast] at hx
              have HS := Aside0.mk (count_succ hklt (c : Int))
              have hcn := List.count_le_length (a := (c : Int)) (l := o.take k)
              rw [List.length_take] at hcn
              obtain ⟨t, ht⟩ : ∃ t, (o.take k).count (c : Int) = t := ⟨_, rfl⟩
              rw [ht] at HS hcn ⊢
              have s4 : (t : Int) < 1000 := by omega
              have s5 : 0 ≤ (t : Int) := Int.natCast_nonneg _
              clear ht hcn
              obtain ⟨x, hxx⟩ : ∃ x, rd o (k : Int) = x := ⟨_, rfl⟩
              rw [hxx] at hx HS
              clear hxx
              by_cases hxc : x = (c : Int)
              · subst hxc
                rw [if_pos rfl] at HS
                go_wp2_with fail
                go_roundw
                case rel => exact ⟨k + 1, by omega, by rw [HS.out]; go_num, by go_num, HX, HB⟩
                case measure => simp [intOf]; omega
              · rw [if_neg hxc] at HS
                go_wp2_with fail
                go_roundw
                case rel => exact ⟨k + 1, by omega, by rw [HS.out]; go_num, by go_num, HX, HB⟩
                case measure => simp [intOf]; omega
            · obtain rfl : k = o.length := by omega
              rw [List.take_length]
              have s3 : ¬ (o.length : Int) < (o.length : Int) := by omega
              by_cases hone : o.count (c : Int) = 1
              · rw [hone]
                have HC2 := Aside0.mk (show onceV o (c + 1) = true by rw [onceV_succ, HC.out, decide_eq_true hone]; rfl)
                go_wp2_with fail
                go_roundw
                case rel => exact ⟨c + 1, by omega, by go_num, HC2, HX, HB⟩
                case measure => simp [intOf]; omega
              · obtain rfl : v = false := HV.out.symm.trans (by unfold refV; rw [HN.out, Int.toNat_natCast, onceV_f hclt hone]; simp)
                have hne : ¬ ((o.count (c : Int) : Nat) : Int) = 1 := by omega
                go_wp2_with fail
                go_ret
                exact ⟨rfl, HB.out⟩
        · obtain rfl : c = o.length := by omega
          have s3 : ¬ (o.length : Int) < (o.length : Int) := by omega
          go_upto_region 24 with (fail)
          rename_i Qx K1 a1 K2 a2
          clear a1
          simp only [List.append_eq, List.cons_append, List.nil_append]
          clear s3 hc hclt q2 p1 hlt hk
          by_cases t1 : 0 < x4
          rotate_left
          · obtain rfl : v = false := HV.out.symm.trans (by unfold refV; rw [inV_f (x := x4) (a := 1) (b := 8) (by omega)]; simp)
            have t1b : decide (0 < x4) = false := decide_eq_false t1
            clear t1
            go_wp2_with (first | fail)
            go_ret
            exact ⟨rfl, by repeat (with_reducible first | exact HB.out | apply pw_below_drewN | apply below_drew1)⟩
          have t1b : decide (0 < x4) = true := decide_eq_true t1
          have Ht1 := Aside0.mk t1
          clear t1
          by_cases t2 : x4 < 9
          rotate_left
          · obtain rfl : v = false := HV.out.symm.trans (by unfold refV; rw [inV_f (x := x4) (a := 1) (b := 8) (by omega)]; simp)
            have t2b : decide (x4 < 9) = false := decide_eq_false t2
            clear t2
            go_wp2_with (first | fail)
            go_ret
            exact ⟨rfl, by repeat (with_reducible first | exact HB.out | apply pw_below_drewN | apply below_drew1)⟩
          have t2b : decide (x4 < 9) = true := decide_eq_true t2
          have Ht2 := Aside0.mk t2
          clear t2
          by_cases t3 : 0 < x5
          rotate_left
          · obtain rfl : v = false := HV.out.symm.trans (by unfold refV; rw [inV_f (x := x5) (a := 1) (b := 16) (by omega)]; simp)
            have t3b : decide (0 < x5) = false := decide_eq_false t3
            clear t3
            go_wp2_with (first | fail)
            go_ret
            exact ⟨rfl, by repeat (with_reducible first | exact HB.out | apply pw_below_drewN | apply below_drew1)⟩
          have t3b : decide (0 < x5) = true := decide_eq_true t3
          have Ht3 := Aside0.mk t3
          clear t3
          by_cases t4 : x5 < 17
          rotate_left
          · obtain rfl : v = false := HV.out.symm.trans (by unfold refV; rw [inV_f (x := x5) (a := 1) (b := 16) (by omega)]; simp)
            have t4b : decide (x5 < 17) = false := decide_eq_false t4
            clear t4
            go_wp2_with (first | fail)
            go_ret
            exact ⟨rfl, by repeat (with_reducible first | exact HB.out | apply pw_below_drewN | apply below_drew1)⟩
          have t4b : decide (x5 < 17) = true := decide_eq_true t4
          have Ht4 := Aside0.mk t4
          clear t4
          obtain ⟨q6, hq6⟩ : ∃ q, inV x6 1 200 = q := ⟨_, rfl⟩
          have HQ6 := Aside0.mk hq6
          have RQ6 := Aside0.mk ((wait_f x6).trans (congrArg some hq6))
          clear hq6
          obtain ⟨q7, hq7⟩ : ∃ q, inV x7 1 200 = q := ⟨_, rfl⟩
          have HQ7 := Aside0.mk hq7
          have RQ7 := Aside0.mk ((wait_f x7).trans (congrArg some hq7))
          clear hq7
          obtain ⟨q8, hq8⟩ : ∃ q, inV x8 1 200 = q := ⟨_, rfl⟩
          have HQ8 := Aside0.mk hq8
          have RQ8 := Aside0.mk ((wait_f x8).trans (congrArg some hq8))
          clear hq8
          obtain ⟨q10, hq10⟩ : ∃ q, inV x10 1 200 = q := ⟨_, rfl⟩
          have HQ10 := Aside0.mk hq10
          have RQ10 := Aside0.mk ((wait_f x10).trans (congrArg some hq10))
          clear hq10
          rcases (show q6 = true ∨ q6 = false by cases q6 <;> simp) with rfl | rfl
          rotate_left
          · obtain rfl : v = false := HV.out.symm.trans (by unfold refV; rw [HQ6.out]; simp)
            go_wp2_with (first | (go_at_call 51; with_reducible refine (paternosterref05_wait.calls x6 false _ RQ6.out).mono ?_; rintro e w1 ⟨rfl, nd, rfl⟩))
            go_ret
            exact ⟨rfl, by repeat (with_reducible first | exact HB.out | apply pw_below_drewN | apply below_drew1)⟩
          rcases (show q7 = true ∨ q7 = false by cases q7 <;> simp) with rfl | rfl
          rotate_left
          · obtain rfl : v = false := HV.out.symm.trans (by unfold refV; rw [HQ7.out]; simp)
            go_wp2_with (first | (go_at_call 51; with_reducible refine (paternosterref05_wait.calls x6 true _ RQ6.out).mono ?_; rintro e w1 ⟨rfl, nd, rfl⟩) | (go_at_call 51; with_reducible refine (paternosterref05_wait.calls x7 false _ RQ7.out).mono ?_; rintro e w1 ⟨rfl, nd, rfl⟩))
            go_ret
            exact ⟨rfl, by repeat (with_reducible first | exact HB.out | apply pw_below_drewN | apply below_drew1)⟩
          rcases (show q8 = true ∨ q8 = false by cases q8 <;> simp) with rfl | rfl
          rotate_left
          · obtain rfl : v = false := HV.out.symm.trans (by unfold refV; rw [HQ8.out]; simp)
            go_wp2_with (first | (go_at_call 51; with_reducible refine (paternosterref05_wait.calls x6 true _ RQ6.out).mono ?_; rintro e w1 ⟨rfl, nd, rfl⟩) | (go_at_call 51; with_reducible refine (paternosterref05_wait.calls x7 true _ RQ7.out).mono ?_; rintro e w1 ⟨rfl, nd, rfl⟩) | (go_at_call 51; with_reducible refine (paternosterref05_wait.calls x8 false _ RQ8.out).mono ?_; rintro e w1 ⟨rfl, nd, rfl⟩))
            go_ret
            exact ⟨rfl, by repeat (with_reducible first | exact HB.out | apply pw_below_drewN | apply below_drew1)⟩
          rcases (show q10 = true ∨ q10 = false by cases q10 <;> simp) with rfl | rfl
          rotate_left
          · obtain rfl : v = false := HV.out.symm.trans (by unfold refV; rw [HQ10.out]; simp)
            go_wp2_with (first | (go_at_call 51; with_reducible refine (paternosterref05_wait.calls x6 true _ RQ6.out).mono ?_; rintro e w1 ⟨rfl, nd, rfl⟩) | (go_at_call 51; with_reducible refine (paternosterref05_wait.calls x7 true _ RQ7.out).mono ?_; rintro e w1 ⟨rfl, nd, rfl⟩) | (go_at_call 51; with_reducible refine (paternosterref05_wait.calls x8 true _ RQ8.out).mono ?_; rintro e w1 ⟨rfl, nd, rfl⟩) | (go_at_call 51; with_reducible refine (paternosterref05_wait.calls x10 false _ RQ10.out).mono ?_; rintro e w1 ⟨rfl, nd, rfl⟩))
            go_ret
            exact ⟨rfl, by repeat (with_reducible first | exact HB.out | apply pw_below_drewN | apply below_drew1)⟩
          by_cases t5 : 0 ≤ x9
          rotate_left
          · obtain rfl : v = false := HV.out.symm.trans (by unfold refV; rw [inV_f (x := x9) (a := 0) (b := 8) (by omega)]; simp)
            have t5b : decide (0 ≤ x9) = false := decide_eq_false t5
            clear t5
            go_wp2_with (first | (go_at_call 51; with_reducible refine (paternosterref05_wait.calls x6 true _ RQ6.out).mono ?_; rintro e w1 ⟨rfl, nd, rfl⟩) | (go_at_call 51; with_reducible refine (paternosterref05_wait.calls x7 true _ RQ7.out).mono ?_; rintro e w1 ⟨rfl, nd, rfl⟩) | (go_at_call 51; with_reducible refine (paternosterref05_wait.calls x8 true _ RQ8.out).mono ?_; rintro e w1 ⟨rfl, nd, rfl⟩) | (go_at_call 51; with_reducible refine (paternosterref05_wait.calls x10 true _ RQ10.out).mono ?_; rintro e w1 ⟨rfl, nd, rfl⟩))
            go_ret
            exact ⟨rfl, by repeat (with_reducible first | exact HB.out | apply pw_below_drewN | apply below_drew1)⟩
          have t5b : decide (0 ≤ x9) = true := decide_eq_true t5
          have Ht5 := Aside0.mk t5
          clear t5
          by_cases t6 : x9 < 9
          rotate_left
          · obtain rfl : v = false := HV.out.symm.trans (by unfold refV; rw [inV_f (x := x9) (a := 0) (b := 8) (by omega)]; simp)
            have t6b : decide (x9 < 9) = false := decide_eq_false t6
            clear t6
            go_wp2_with (first | (go_at_call 51; with_reducible refine (paternosterref05_wait.calls x6 true _ RQ6.out).mono ?_; rintro e w1 ⟨rfl, nd, rfl⟩) | (go_at_call 51; with_reducible refine (paternosterref05_wait.calls x7 true _ RQ7.out).mono ?_; rintro e w1 ⟨rfl, nd, rfl⟩) | (go_at_call 51; with_reducible refine (paternosterref05_wait.calls x8 true _ RQ8.out).mono ?_; rintro e w1 ⟨rfl, nd, rfl⟩) | (go_at_call 51; with_reducible refine (paternosterref05_wait.calls x10 true _ RQ10.out).mono ?_; rintro e w1 ⟨rfl, nd, rfl⟩))
            go_ret
            exact ⟨rfl, by repeat (with_reducible first | exact HB.out | apply pw_below_drewN | apply below_drew1)⟩
          have t6b : decide (x9 < 9) = true := decide_eq_true t6
          have Ht6 := Aside0.mk t6
          clear t6
          by_cases t7 : 0 ≤ x11
          rotate_left
          · obtain rfl : v = false := HV.out.symm.trans (by unfold refV; rw [inV_f (x := x11) (a := 0) (b := 100) (by omega)]; simp)
            have t7b : decide (0 ≤ x11) = false := decide_eq_false t7
            clear t7
            go_wp2_with (first | (go_at_call 51; with_reducible refine (paternosterref05_wait.calls x6 true _ RQ6.out).mono ?_; rintro e w1 ⟨rfl, nd, rfl⟩) | (go_at_call 51; with_reducible refine (paternosterref05_wait.calls x7 true _ RQ7.out).mono ?_; rintro e w1 ⟨rfl, nd, rfl⟩) | (go_at_call 51; with_reducible refine (paternosterref05_wait.calls x8 true _ RQ8.out).mono ?_; rintro e w1 ⟨rfl, nd, rfl⟩) | (go_at_call 51; with_reducible refine (paternosterref05_wait.calls x10 true _ RQ10.out).mono ?_; rintro e w1 ⟨rfl, nd, rfl⟩))
            go_ret
            exact ⟨rfl, by repeat (with_reducible first | exact HB.out | apply pw_below_drewN | apply below_drew1)⟩
          have t7b : decide (0 ≤ x11) = true := decide_eq_true t7
          have Ht7 := Aside0.mk t7
          clear t7
          by_cases t8 : x11 < 101
          rotate_left
          · obtain rfl : v = false := HV.out.symm.trans (by unfold refV; rw [inV_f (x := x11) (a := 0) (b := 100) (by omega)]; simp)
            have t8b : decide (x11 < 101) = false := decide_eq_false t8
            clear t8
            go_wp2_with (first | (go_at_call 51; with_reducible refine (paternosterref05_wait.calls x6 true _ RQ6.out).mono ?_; rintro e w1 ⟨rfl, nd, rfl⟩) | (go_at_call 51; with_reducible refine (paternosterref05_wait.calls x7 true _ RQ7.out).mono ?_; rintro e w1 ⟨rfl, nd, rfl⟩) | (go_at_call 51; with_reducible refine (paternosterref05_wait.calls x8 true _ RQ8.out).mono ?_; rintro e w1 ⟨rfl, nd, rfl⟩) | (go_at_call 51; with_reducible refine (paternosterref05_wait.calls x10 true _ RQ10.out).mono ?_; rintro e w1 ⟨rfl, nd, rfl⟩))
            go_ret
            exact ⟨rfl, by repeat (with_reducible first | exact HB.out | apply pw_below_drewN | apply below_drew1)⟩
          have t8b : decide (x11 < 101) = true := decide_eq_true t8
          have Ht8 := Aside0.mk t8
          clear t8
          by_cases t9 : 0 ≤ x12
          rotate_left
          · obtain rfl : v = false := HV.out.symm.trans (by unfold refV; rw [inV_f (x := x12) (a := 0) (b := 1048576) (by omega)]; simp)
            have t9b : decide (0 ≤ x12) = false := decide_eq_false t9
            clear t9
            go_wp2_with (first | (go_at_call 51; with_reducible refine (paternosterref05_wait.calls x6 true _ RQ6.out).mono ?_; rintro e w1 ⟨rfl, nd, rfl⟩) | (go_at_call 51; with_reducible refine (paternosterref05_wait.calls x7 true _ RQ7.out).mono ?_; rintro e w1 ⟨rfl, nd, rfl⟩) | (go_at_call 51; with_reducible refine (paternosterref05_wait.calls x8 true _ RQ8.out).mono ?_; rintro e w1 ⟨rfl, nd, rfl⟩) | (go_at_call 51; with_reducible refine (paternosterref05_wait.calls x10 true _ RQ10.out).mono ?_; rintro e w1 ⟨rfl, nd, rfl⟩))
            go_ret
            exact ⟨rfl, by repeat (with_reducible first | exact HB.out | apply pw_below_drewN | apply below_drew1)⟩
          have t9b : decide (0 ≤ x12) = true := decide_eq_true t9
          have Ht9 := Aside0.mk t9
          clear t9
          obtain rfl : v = decide (x12 ≤ 1048576) := HV.out.symm.trans (by
            have t1 := Ht1.out
            have t2 := Ht2.out
            have t3 := Ht3.out
            have t4 := Ht4.out
            have t5 := Ht5.out
            have t6 := Ht6.out
            have t7 := Ht7.out
            have t8 := Ht8.out
            have t9 := Ht9.out
            unfold refV
            rw [inV_t.2 (show (1 : Int) ≤ (l.length : Int) ∧ (l.length : Int) ≤ 8 by have := HL.out; omega), HA.out, inV_t.2 HF.out.1, inV_t.2 HF.out.2, HN.out, decide_eq_true rfl, Int.toNat_natCast, HC.out, inV_t.2 (show 1 ≤ x4 ∧ x4 ≤ 8 by omega), inV_t.2 (show 1 ≤ x5 ∧ x5 ≤ 16 by omega), HQ6.out, HQ7.out, HQ8.out, HQ10.out, inV_t.2 (show 0 ≤ x9 ∧ x9 ≤ 8 by omega), inV_t.2 (show 0 ≤ x11 ∧ x11 ≤ 100 by omega)]
            simp only [Bool.not_false, Bool.true_and]
            unfold inV
            rw [decide_eq_true (show 0 ≤ x12 by omega), Bool.true_and])
          go_wp2_with (first | (go_at_call 51; with_reducible refine (paternosterref05_wait.calls x6 true _ RQ6.out).mono ?_; rintro e w1 ⟨rfl, nd, rfl⟩) | (go_at_call 51; with_reducible refine (paternosterref05_wait.calls x7 true _ RQ7.out).mono ?_; rintro e w1 ⟨rfl, nd, rfl⟩) | (go_at_call 51; with_reducible refine (paternosterref05_wait.calls x8 true _ RQ8.out).mono ?_; rintro e w1 ⟨rfl, nd, rfl⟩) | (go_at_call 51; with_reducible refine (paternosterref05_wait.calls x10 true _ RQ10.out).mono ?_; rintro e w1 ⟨rfl, nd, rfl⟩))
          go_ret
          exact ⟨rfl, by repeat (with_reducible first | exact HB.out | apply pw_below_drewN | apply below_drew1)⟩
end
end Go.Proofs.Ytomaojmccchibaa.X
