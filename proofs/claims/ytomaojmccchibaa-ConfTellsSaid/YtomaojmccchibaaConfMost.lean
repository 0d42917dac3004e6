/- The most that one car of a group draws. -/
import Derived.Test.YtomaojmccchibaaConfOrdered
import Derived.Test.YtomaojmccchibaaRatesM2
namespace Go.Proofs.Ytomaojmccchibaa.X
open Go.RowKit Go.Proofs.YtomaojmccchibaaW.PrintWords Go.Proofs.YtomaojmccchibaaW.PrintLast Go.Proofs.YtomaojmccchibaaW.PrintMore
attribute [local go_sem] max2_mx min2_mn max_two min_two
set_option linter.unusedVariables false
set_option linter.unusedSimpArgs false

/-- The most that a car of a bank draws. -/
def mostB (b : S38) : Int := if Ok b.f1 then mK (pV b.f1) (qV b.f1) 65 else 0
def mostV (l : List S38) : Int := l.foldl (fun n b => mx n (mostB b)) 0
theorem mostV_succ {l : List S38} {k : Nat} (h : k < l.length) : mostV (l.take (k + 1)) = mx (mostV (l.take k)) (mostB (rd_T38 l (k : Int))) := by
  unfold mostV
  rw [List.take_succ_eq_append_getElem h, List.foldl_append, rdT_at h]; rfl
set_option maxRecDepth 100000 in
set_option maxHeartbeats 4000000 in
theorem most_group (A B : Option Addr) (cn m cm : Nat) (x1 x2 x4 x5 x6 x7 x8 x9 x10 x11 x12 : Int) (w : World) (l : List S38) (hr : Kd.C k38 w A l.length l) (hl : l.length ≤ 1000) :
    Calls Try.prog 40 #[confV A B l.length cn m cm x1 x2 x4 x5 x6 x7 x8 x9 x10 x11 x12] w fun e w' => e = .returned (.int .i64 (mostV l)) ∧ Below w.heap.size w w' := by
  have HR := Aside0.mk hr
  clear hr
  unfold confV
  go_enter Try.func40, Try.ntmps40
  go_wp2_with fail
  have HB := Aside0.mk (below_alloc (Below.refl w.heap.size w) (.cells #[.slice A l.length cn, .int .i64 x1, .int .i64 x2, .slice B m cm, .int .i64 x4, .int .i64 x5, .int .i64 x6, .int .i64 x7, .int .i64 x8, .int .i64 x9, .int .i64 x10, .int .i64 x11, .int .i64 x12] 25))
  go_loopw [3, 9] (fun nv i wr => ∃ k : Nat, k ≤ l.length ∧ nv = .int .i64 (mostV (l.take k)) ∧ i = .int .i64 k ∧ Aside0 (Below w.heap.size w wr)) (fun _ i _ => l.length - (intOf i).toNat)
  case atStart => exact ⟨0, Nat.zero_le _, rfl, rfl, HB⟩
  case round =>
    clear HB
    obtain ⟨k, hk, rfl, rfl, HB⟩ := hrel
    by_cases hlt : k < l.length
    · have p1 : 0 ≤ (k : Int) := Int.natCast_nonneg _
      have q1 : (k : Int) < (l.length : Int) := by omega
      have q2 : (k : Int) < 1000 := by omega
      obtain ⟨ad, e1, hx0, hx1, hx2, hx3, hx4, hx5, hx6⟩ := at_T38 HR.out (k : Int) p1 q1
      cases e1
      replace hx0 := (HB.out.cell (World.block_lt_of_cell? w _ hx0)).trans hx0
      replace hx1 := (HB.out.cell (World.block_lt_of_cell? w _ hx1)).trans hx1
      replace hx2 := (HB.out.cell (World.block_lt_of_cell? w _ hx2)).trans hx2
      replace hx3 := (HB.out.cell (World.block_lt_of_cell? w _ hx3)).trans hx3
      replace hx4 := (HB.out.cell (World.block_lt_of_cell? w _ hx4)).trans hx4
      replace hx5 := (HB.out.cell (World.block_lt_of_cell? w _ hx5)).trans hx5
      replace hx6 := (HB.out.cell (World.block_lt_of_cell? w _ hx6)).trans hx6
      rw [Int.toNat_natCast] at hx0 hx1 hx2 hx3 hx4 hx5 hx6
      have HS := Aside0.mk (mostV_succ hlt)
      obtain ⟨n, hn⟩ : ∃ n, mostV (l.take k) = n := ⟨_, rfl⟩
      obtain ⟨b, hbk⟩ : ∃ b, rd_T38 l (k : Int) = b := ⟨_, rfl⟩
      rw [hbk] at hx0 hx1 hx2 hx3 hx4 hx5 hx6 HS
      rw [hn] at HS ⊢
      clear hn hbk
      by_cases hok : Ok b.f1
      · have HC := Aside0.mk (show rates_Check.f b.f1.f0 b.f1.f1 b.f1.f2 b.f1.f3 b.f1.f4 b.f1.f5 = some true by rw [check_f, decide_eq_true hok])
        have HM := Aside0.mk (show mostB b = mK (pV b.f1) (qV b.f1) 65 by unfold mostB; rw [if_pos hok])
        have HPK := Aside0.mk (peaks_of hok)
        rw [HM.out] at HS
        clear hok
        go_wp2_with (first | ((with_reducible refine gate_dst (N := 5) rfl ?_); refine box_event ?hg (N := 5) ?hd (cs := #[.int .i64 0, .int .i64 0, .int .i64 0, .int .i64 0, .int .i64 0, .int .i64 0, .int .i64 0]) (t := 38) ?hr ?_; (case hd => rfl); (case hg => rfl); (case hr => first | (go_simp; done) | (go_simp; rfl)); intro gb hgb w7 hbox hb7; have cb0 : w7.cell? ⟨gb, 0, none⟩ = some (.int .i64 0) := (blk_cell hbox 0).trans rfl; have fb0 : w7.frozen? ⟨gb, 0, none⟩ = false := blk_frozen hbox 0; have cb1 : w7.cell? ⟨gb, 1, none⟩ = some (.int .i64 0) := (blk_cell hbox 1).trans rfl; have fb1 : w7.frozen? ⟨gb, 1, none⟩ = false := blk_frozen hbox 1; have cb2 : w7.cell? ⟨gb, 2, none⟩ = some (.int .i64 0) := (blk_cell hbox 2).trans rfl; have fb2 : w7.frozen? ⟨gb, 2, none⟩ = false := blk_frozen hbox 2; have cb3 : w7.cell? ⟨gb, 3, none⟩ = some (.int .i64 0) := (blk_cell hbox 3).trans rfl; have fb3 : w7.frozen? ⟨gb, 3, none⟩ = false := blk_frozen hbox 3; have cb4 : w7.cell? ⟨gb, 4, none⟩ = some (.int .i64 0) := (blk_cell hbox 4).trans rfl; have fb4 : w7.frozen? ⟨gb, 4, none⟩ = false := blk_frozen hbox 4; have cb5 : w7.cell? ⟨gb, 5, none⟩ = some (.int .i64 0) := (blk_cell hbox 5).trans rfl; have fb5 : w7.frozen? ⟨gb, 5, none⟩ = false := blk_frozen hbox 5; have cb6 : w7.cell? ⟨gb, 6, none⟩ = some (.int .i64 0) := (blk_cell hbox 6).trans rfl; have fb6 : w7.frozen? ⟨gb, 6, none⟩ = false := blk_frozen hbox 6; have GB := Aside0.mk (show w.heap.size ≤ gb from (by (have := below_size HB.out; omega))); have HA7 := Aside0.mk (below_step HB.out hb7); clear hb7 hbox hgb))
        have hA : Below w.heap.size w (((((((w7.setCell ⟨gb, 0, none⟩ (.int .i64 b.f0)).setCell ⟨gb, 1, none⟩ (.int .i64 b.f1.f0)).setCell ⟨gb, 2, none⟩ (.int .i64 b.f1.f1)).setCell ⟨gb, 3, none⟩ (.int .i64 b.f1.f2)).setCell ⟨gb, 4, none⟩ (.int .i64 b.f1.f3)).setCell ⟨gb, 5, none⟩ (.int .i64 b.f1.f4)).setCell ⟨gb, 6, none⟩ (.int .i64 b.f1.f5)) := by
          repeat refine Below.setCell ?_ (show w.heap.size ≤ gb from GB.out) _
          exact HA7.out
        generalize (((((((w7.setCell ⟨gb, 0, none⟩ (.int .i64 b.f0)).setCell ⟨gb, 1, none⟩ (.int .i64 b.f1.f0)).setCell ⟨gb, 2, none⟩ (.int .i64 b.f1.f1)).setCell ⟨gb, 3, none⟩ (.int .i64 b.f1.f2)).setCell ⟨gb, 4, none⟩ (.int .i64 b.f1.f3)).setCell ⟨gb, 5, none⟩ (.int .i64 b.f1.f4)).setCell ⟨gb, 6, none⟩ (.int .i64 b.f1.f5)) = W at hA ⊢
        have HA := Aside0.mk hA
        clear hA
        refine (new_yes b.f1 W HC.out).mono ?_
        rintro e w2 ⟨g2, rfl, hg2, hraw, hb⟩
        have HT := Aside0.mk hraw
        have HA2 := Aside0.mk (below_step HA.out hb)
        have HG2 := Aside0.mk (show w.heap.size ≤ g2 by have := below_size HA.out; omega)
        clear hg2 hraw hb
        go_wp2_with fail
        refine (most_any g2 b.f1 (pV b.f1) (qV b.f1) w2 (.inl HT.out) HPK.out).mono ?_
        rintro e w3 ⟨rfl, _, hbut⟩
        have HB3 := Aside0.mk (But.to hbut HA2.out HA2.out.size HG2.out)
        clear hbut
        go_wp2_with fail
        go_roundw
        case rel => exact ⟨k + 1, by omega, by rw [HS.out], by go_num, HB3⟩
        case measure => simp [intOf]; omega
      · have HC := Aside0.mk (show rates_Check.f b.f1.f0 b.f1.f1 b.f1.f2 b.f1.f3 b.f1.f4 b.f1.f5 = some false by rw [check_f, decide_eq_false hok])
        have HM := Aside0.mk (show mostB b = 0 by unfold mostB; rw [if_neg hok])
        rw [HM.out] at HS
        clear hok
        go_wp2_with (first | ((with_reducible refine gate_dst (N := 5) rfl ?_); refine box_event ?hg (N := 5) ?hd (cs := #[.int .i64 0, .int .i64 0, .int .i64 0, .int .i64 0, .int .i64 0, .int .i64 0, .int .i64 0]) (t := 38) ?hr ?_; (case hd => rfl); (case hg => rfl); (case hr => first | (go_simp; done) | (go_simp; rfl)); intro gb hgb w7 hbox hb7; have cb0 : w7.cell? ⟨gb, 0, none⟩ = some (.int .i64 0) := (blk_cell hbox 0).trans rfl; have fb0 : w7.frozen? ⟨gb, 0, none⟩ = false := blk_frozen hbox 0; have cb1 : w7.cell? ⟨gb, 1, none⟩ = some (.int .i64 0) := (blk_cell hbox 1).trans rfl; have fb1 : w7.frozen? ⟨gb, 1, none⟩ = false := blk_frozen hbox 1; have cb2 : w7.cell? ⟨gb, 2, none⟩ = some (.int .i64 0) := (blk_cell hbox 2).trans rfl; have fb2 : w7.frozen? ⟨gb, 2, none⟩ = false := blk_frozen hbox 2; have cb3 : w7.cell? ⟨gb, 3, none⟩ = some (.int .i64 0) := (blk_cell hbox 3).trans rfl; have fb3 : w7.frozen? ⟨gb, 3, none⟩ = false := blk_frozen hbox 3; have cb4 : w7.cell? ⟨gb, 4, none⟩ = some (.int .i64 0) := (blk_cell hbox 4).trans rfl; have fb4 : w7.frozen? ⟨gb, 4, none⟩ = false := blk_frozen hbox 4; have cb5 : w7.cell? ⟨gb, 5, none⟩ = some (.int .i64 0) := (blk_cell hbox 5).trans rfl; have fb5 : w7.frozen? ⟨gb, 5, none⟩ = false := blk_frozen hbox 5; have cb6 : w7.cell? ⟨gb, 6, none⟩ = some (.int .i64 0) := (blk_cell hbox 6).trans rfl; have fb6 : w7.frozen? ⟨gb, 6, none⟩ = false := blk_frozen hbox 6; have GB := Aside0.mk (show w.heap.size ≤ gb from (by (have := below_size HB.out; omega))); have HA7 := Aside0.mk (below_step HB.out hb7); clear hb7 hbox hgb))
        have hA : Below w.heap.size w (((((((w7.setCell ⟨gb, 0, none⟩ (.int .i64 b.f0)).setCell ⟨gb, 1, none⟩ (.int .i64 b.f1.f0)).setCell ⟨gb, 2, none⟩ (.int .i64 b.f1.f1)).setCell ⟨gb, 3, none⟩ (.int .i64 b.f1.f2)).setCell ⟨gb, 4, none⟩ (.int .i64 b.f1.f3)).setCell ⟨gb, 5, none⟩ (.int .i64 b.f1.f4)).setCell ⟨gb, 6, none⟩ (.int .i64 b.f1.f5)) := by
          repeat refine Below.setCell ?_ (show w.heap.size ≤ gb from GB.out) _
          exact HA7.out
        generalize (((((((w7.setCell ⟨gb, 0, none⟩ (.int .i64 b.f0)).setCell ⟨gb, 1, none⟩ (.int .i64 b.f1.f0)).setCell ⟨gb, 2, none⟩ (.int .i64 b.f1.f1)).setCell ⟨gb, 3, none⟩ (.int .i64 b.f1.f2)).setCell ⟨gb, 4, none⟩ (.int .i64 b.f1.f3)).setCell ⟨gb, 5, none⟩ (.int .i64 b.f1.f4)).setCell ⟨gb, 6, none⟩ (.int .i64 b.f1.f5)) = W at hA ⊢
        have HA := Aside0.mk hA
        clear hA
        refine (new_no b.f1 W HC.out).mono ?_
        rintro e w2 ⟨rfl, hb⟩
        have HB3 := Aside0.mk (below_step HA.out hb)
        clear hb
        go_wp2_with fail
        refine (most_nil _).mono ?_
        rintro e w3 ⟨rfl, rfl⟩
        go_wp2_with fail
        go_roundw
        case rel => exact ⟨k + 1, by omega, by rw [HS.out], by go_num, HB3⟩
        case measure => simp [intOf]; omega
    · have hkd : ¬ (k : Int) < (l.length : Int) := by omega
      have e1 : l.take k = l := List.take_of_length_le (by omega)
      rw [e1]
      go_wp2_with fail
      go_ret
      exact ⟨rfl, HB.out⟩
def conf_Most.f (l0_0 : List S38) (a0_1 : Int) (a0_2 : Int) (l0_3 : List Int) (a0_4 : Int) (a0_5 : Int) (a0_6 : Int) (a0_7 : Int) (a0_8 : Int) (a0_9 : Int) (a0_10 : Int) (a0_11 : Int) (a0_12 : Int) : Option Int :=
  if l0_0.length ≤ 1000 then some (mostV l0_0) else none
theorem conf_Most.calls (A0_0 : Option Addr) (c0_0 : Nat) (l0_0 : List S38) (a0_1 : Int) (a0_2 : Int) (A0_3 : Option Addr) (c0_3 : Nat) (l0_3 : List Int) (a0_4 : Int) (a0_5 : Int) (a0_6 : Int) (a0_7 : Int) (a0_8 : Int) (a0_9 : Int) (a0_10 : Int) (a0_11 : Int) (a0_12 : Int) (r : Int) (w : World) (hr0_0 : Kd.C k38 w A0_0 l0_0.length l0_0) (hc0_0 : l0_0.length ≤ c0_0) (hr0_3 : Kd.C (Kd.int .i64) w A0_3 l0_3.length l0_3) (hc0_3 : l0_3.length ≤ c0_3) (h : conf_Most.f l0_0 a0_1 a0_2 l0_3 a0_4 a0_5 a0_6 a0_7 a0_8 a0_9 a0_10 a0_11 a0_12 = some r) :
    Calls Try.prog 40 #[.agg #[.slice A0_0 l0_0.length c0_0, .int .i64 a0_1, .int .i64 a0_2, .slice A0_3 l0_3.length c0_3, .int .i64 a0_4, .int .i64 a0_5, .int .i64 a0_6, .int .i64 a0_7, .int .i64 a0_8, .int .i64 a0_9, .int .i64 a0_10, .int .i64 a0_11, .int .i64 a0_12]] w fun e w' => e = .returned (.int .i64 r) ∧ Below w.heap.size w w' := by
  unfold conf_Most.f at h
  by_cases hl : l0_0.length ≤ 1000
  · rw [if_pos hl] at h
    obtain rfl := Option.some.inj h
    exact most_group A0_0 A0_3 c0_0 l0_3.length c0_3 a0_1 a0_2 a0_4 a0_5 a0_6 a0_7 a0_8 a0_9 a0_10 a0_11 a0_12 w l0_0 hr0_0 hl
  · rw [if_neg hl] at h; cases h
end Go.Proofs.Ytomaojmccchibaa.X
