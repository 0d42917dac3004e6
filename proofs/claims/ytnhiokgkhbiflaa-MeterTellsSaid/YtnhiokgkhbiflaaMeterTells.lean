/- MeterTells, walked: whatever is drawn, tick by tick, what is metered, the last, and the most, are the document's. -/
import Derived.Test.YtnhiokgkhbiflaaMeterExt
namespace Go.Proofs.Ytnhiokgkhbiflaa.X
open Go.RowKit Go.Proofs.YtnhiokgkhbiflaaW.PrintWords Go.Proofs.YtnhiokgkhbiflaaW.PrintLast Go.Proofs.YtnhiokgkhbiflaaW.PrintMore
attribute [local go_sem] max2_mx min2_mn max_two min_two
set_option linter.unusedVariables false
set_option linter.unusedSimpArgs false

def paternosterlaw11_MeterTells.f (l0 : List (List Int)) : Option Bool := some true
set_option maxRecDepth 100000 in
set_option maxHeartbeats 8000000 in
theorem paternosterlaw11_MeterTells.calls (A0 : Option Addr) (c0 : Nat) (l0 : List (List Int)) (r : Bool) (w : World) (hr0 : Kd.C (Kd.slice 3 (Kd.int .i64)) w A0 l0.length l0) (hc0 : l0.length ≤ c0) (h : paternosterlaw11_MeterTells.f l0 = some r) :
    Calls Try.prog 13 #[.slice A0 l0.length c0] w fun e w' => e = .returned (.bool r) ∧ Below w.heap.size w w' := by
  obtain rfl := Option.some.inj h
  clear h hc0
  have HR := Aside0.mk hr0
  clear hr0
  by_cases q1 : (l0.length : Int) > 100
  · go_enter Try.func13, Try.ntmps13
    go_wp2_with fail
    refine (paternosterlaw11_awake.calls true _ rfl).mono ?_
    rintro e w1 ⟨rfl, hb⟩
    have B1 := Aside0.mk hb
    clear hb
    go_wp2_with fail
    go_ret
    exact ⟨rfl, B1.out⟩
  · go_enter Try.func13, Try.ntmps13
    go_wp2_with fail
    refine (paternosterlaw11_awake.calls true _ rfl).mono ?_
    rintro e w1 ⟨rfl, hb⟩
    have B1 := Aside0.mk hb
    clear hb
    go_wp2_with fail
    refine (new_any _).mono ?_
    rintro e w2 ⟨rfl, m, hb⟩
    obtain ⟨g, hg⟩ : ∃ g, w1.heap.size = g := ⟨_, rfl⟩
    have G1 := Aside0.mk (show w.heap.size ≤ g by rw [← hg]; exact B1.out.size)
    rw [hg] at m
    rw [hg]
    have M0 := Aside0.mk m
    have B2 := Aside0.mk (below_step B1.out hb)
    clear m hb hg
    go_wp2_with fail
    go_loopw [5, 6] (fun hi i wr => ∃ (k : Nat) (a hh : Int), k ≤ l0.length ∧ hi = .int .i64 hh ∧ i = .int .i64 k ∧ Aside0 (MB g a hh k wr) ∧ Aside0 (Below w.heap.size w wr)) (fun _ i _ => l0.length - (intOf i).toNat)
    case atStart => exact ⟨0, 0, 0, Nat.zero_le _, rfl, rfl, M0, B2⟩
    case round =>
      clear M0 B2
      obtain ⟨k, a, hh, hk, rfl, rfl, M, B⟩ := hrel
      by_cases hlt : k < l0.length
      · have p1 : 0 ≤ (k : Int) := Int.natCast_nonneg _
        have q2 : (k : Int) < (l0.length : Int) := by omega
        obtain ⟨ad, A1, c1, e1, hx, hle, hC⟩ := at_L3 HR.out (k : Int) p1 q2
        cases e1
        replace hx := (B.out.cell (World.block_lt_of_cell? w _ hx)).trans hx
        obtain ⟨zs, hz⟩ : ∃ zs, rd_L3 l0 (k : Int) = zs := ⟨_, rfl⟩
        rw [hz] at hx hC hle
        rw [Int.toNat_natCast] at hx
        have HC := Aside0.mk hC
        have HLE := Aside0.mk hle
        clear hC hle hz
        by_cases q3 : (zs.length : Int) > 100
        · go_wp2_with fail
          go_ret
          exact ⟨rfl, B.out⟩
        · obtain ⟨n, hn⟩ : ∃ n, sumV zs = n := ⟨_, rfl⟩
          have HN := Aside0.mk hn
          have HS := Aside0.mk ((rsum_f zs (by omega) 1000 (by omega)).trans (congrArg some hn))
          have HX := Aside0.mk hx
          have hlb := World.block_lt_of_cell? _ _ hx
          have HLB := Aside0.mk hlb
          have HK1 := Aside0.mk (show wrap64 ((k : Int) + 1) = (k : Int) + 1 from wrap_in (by omega) (by omega))
          clear hn hlb
          go_wp2_with fail
          refine (paternosterlaw11_sum.calls 1000 _ _ zs n _ (Kd.C_below HC.out B.out) HLE.out HS.out).mono ?_
          rintro e w3 ⟨rfl, nd, rfl⟩
          have M3 := Aside0.mk (show MB g a hh k (wr.drewN nd) from M.out)
          have B3 := Aside0.mk (pw_below_drewN B.out nd)
          go_wp2_with fail
          refine (tick_v g a hh k ((k : Int) + 1) _ c1 zs _ M3.out (Kd.C_below HC.out B3.out) (by omega) HK1.out).mono ?_
          rintro e w4 ⟨rfl, m, hk4⟩
          rw [HN.out] at m
          rw [HN.out]
          have M4 := Aside0.mk m
          have B4 := Aside0.mk (But.to hk4 B3.out B3.out.size G1.out)
          clear m hk4 hx
          go_wp2_with fail
          refine (last_any g _ _ _ _ M4.out).mono ?_
          rintro e w5 ⟨rfl, rfl⟩
          go_wp2_with fail
          refine (high_any g _ _ _ _ M4.out).mono ?_
          rintro e w6 ⟨rfl, rfl⟩
          go_wp2_with fail
          refine (ticks_any g _ _ _ _ M4.out).mono ?_
          rintro e w7 ⟨rfl, rfl⟩
          go_wp2_with fail
          go_roundw
          case rel => exact ⟨k + 1, n, mx hh n, by omega, rfl, by go_num, by simpa using M4, B4⟩
          case measure => simp [intOf]; omega
      · have hkd : ¬ (k : Int) < (l0.length : Int) := by omega
        go_wp2_with (first | (go_at_call 31; refine (tick_nil _ _).mono ?_; rintro e w3 ⟨rfl, rfl⟩) | (go_at_call 32; refine (last_nil _).mono ?_; rintro e w3 ⟨rfl, rfl⟩) | (go_at_call 33; refine (high_nil _).mono ?_; rintro e w3 ⟨rfl, rfl⟩) | (go_at_call 34; refine (ticks_nil _).mono ?_; rintro e w3 ⟨rfl, rfl⟩))
        go_ret
        exact ⟨rfl, by repeat (first | exact B.out | apply below_alloc)⟩
end Go.Proofs.Ytnhiokgkhbiflaa.X
