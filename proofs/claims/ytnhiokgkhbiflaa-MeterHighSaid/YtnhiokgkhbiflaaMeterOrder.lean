/- MeterOrder, walked: draws in whatever order come to the same; what is given back is nothing; another meter plays no part. -/
import Derived.Test.YtnhiokgkhbiflaaMeterExt
namespace Go.Proofs.Ytnhiokgkhbiflaa.X
open Go.RowKit Go.Proofs.YtnhiokgkhbiflaaW.PrintWords Go.Proofs.YtnhiokgkhbiflaaW.PrintLast Go.Proofs.YtnhiokgkhbiflaaW.PrintMore
attribute [local go_sem] max2_mx min2_mn max_two min_two
set_option linter.unusedVariables false
set_option linter.unusedSimpArgs false

theorem infoI : (Try.prog.info? 3).map (fun i => (i.zero, i.size, i.bytes)) = some (some (.int .i64 0), 1, 8) := by kernel_rfl
def in32 (l : List Int) : Bool := l.all fun x => decide (-2147483648 ≤ x) && decide (x ≤ 2147483647)
theorem in32_at {l : List Int} (h : in32 l = true) {k : Nat} (hk : k < l.length) : -2147483648 ≤ rd l (k : Int) ∧ rd l (k : Int) ≤ 2147483647 := by
  have := (List.all_eq_true.1 h) (rd l (k : Int)) (by unfold rd; rw [List.getD_eq_getElem?_getD, Int.toNat_natCast, List.getElem?_eq_getElem hk]; exact List.getElem_mem _)
  simpa using this
theorem rd_take {l : List Int} {k : Nat} (hk : k < l.length) : l.take (k + 1) = l.take k ++ [rd l (k : Int)] := by
  rw [List.take_succ_eq_append_getElem hk]
  unfold rd; rw [List.getD_eq_getElem?_getD, Int.toNat_natCast, List.getElem?_eq_getElem hk]; rfl
theorem rd_rev {l : List Int} {k : Nat} (hk : k < l.length) : rd l.reverse (k : Int) = rd l ((l.length - 1 - k : Nat) : Int) := by
  unfold rd
  rw [List.getD_eq_getElem?_getD, List.getD_eq_getElem?_getD, Int.toNat_natCast, Int.toNat_natCast, List.getElem?_reverse hk]
/-- What is given back. -/
def backs (l : List Int) : List Int := l.map fun x => mn x (-x)
theorem tot_rev (l : List Int) : tot l.reverse = tot l := by
  induction l with
  | nil => rfl
  | cons y l ih => rw [List.reverse_cons, tot_append, tot_cons, tot_cons, tot_nil, ih]; omega
theorem tot_backs (l : List Int) : tot (backs l) = 0 := by
  induction l with
  | nil => rfl
  | cons y l ih =>
    have : tot (backs (y :: l)) = mx (mn y (-y)) 0 + tot (backs l) := tot_cons _ _
    rw [this, ih]
    unfold mx mn
    repeat' split
    all_goals omega
theorem order_v (l b : List Int) : sumV (l.reverse ++ backs b) = sumV l := by
  unfold sumV; rw [tot_append, tot_rev, tot_backs, Int.add_zero]
theorem R_ok {e base : Nat} {ok : Nat → Prop} {w w1 : World} {v : Value} {xs : List Int} (h : (Kd.int .i64).R e w base ok v xs) (hb : Below w.heap.size w w1) : (Kd.int .i64).R e w1 base ok v xs :=
  Kd.R_mono (Kd.R_move (Kd.R_bound h) (fun k hk => hb.block k hk.2.2.1)) (fun _ hk => hk.1)
theorem R_but {e base N g : Nat} {w w1 : World} {v : Value} {xs : List Int} (h : (Kd.int .i64).R e w base (fun k => k < N) v xs) (hk : But g w w1) (hg : N ≤ g) : (Kd.int .i64).R e w1 base (fun k => k < N) v xs :=
  Kd.R_mono (Kd.R_move (Kd.R_bound h) (fun k hq => hk.keep.2 k hq.2.2.1 (by have := hq.1; omega))) (fun _ hq => hq.1)
theorem R_top {e base : Nat} {ok : Nat → Prop} {w : World} {v : Value} {xs : List Int} (h : (Kd.int .i64).R e w base ok v xs) : (Kd.int .i64).R e w base (fun k => k < w.heap.size) v xs :=
  Kd.R_mono (Kd.R_bound h) (fun _ hk => hk.2.2.1)
theorem R_true {e base : Nat} {ok : Nat → Prop} {w : World} {v : Value} {xs : List Int} (h : (Kd.int .i64).R e w base ok v xs) : (Kd.int .i64).R e w base (fun k => True ∧ ok k) v xs :=
  Kd.R_mono h (fun _ hk => ⟨trivial, hk⟩)
theorem R_untrue {e base : Nat} {ok : Nat → Prop} {w : World} {v : Value} {xs : List Int} (h : (Kd.int .i64).R e w base (fun k => True ∧ ok k) v xs) : (Kd.int .i64).R e w base ok v xs :=
  Kd.R_mono h (fun _ hk => hk.2)
theorem backs_succ {l : List Int} {k : Nat} (h : k < l.length) : backs (l.take (k + 1)) = backs (l.take k) ++ [mn (rd l (k : Int)) (-(rd l (k : Int)))] := by
  unfold backs rd
  rw [List.take_succ_eq_append_getElem h, List.map_append, Int.toNat_natCast, List.getD_eq_getElem?_getD, List.getElem?_eq_getElem h]; rfl
theorem mx0 (l : List Int) : mx 0 (sumV l) = sumV l := by have := sumV_bd l; unfold mx; split <;> omega
theorem mx_comm (a b : Int) : mx a b = mx b a := by unfold mx; split <;> split <;> omega
def paternosterlaw11_MeterOrder.f (l0 : List Int) (l1 : List Int) : Option Bool := if in32 l0 = true ∧ in32 l1 = true then some true else none
set_option maxRecDepth 100000 in
set_option maxHeartbeats 8000000 in
theorem paternosterlaw11_MeterOrder.calls (A0 : Option Addr) (c0 : Nat) (l0 : List Int) (A1 : Option Addr) (c1 : Nat) (l1 : List Int) (r : Bool) (w : World) (hr0 : Kd.C (Kd.int .i32) w A0 l0.length l0) (hc0 : l0.length ≤ c0) (hr1 : Kd.C (Kd.int .i32) w A1 l1.length l1) (hc1 : l1.length ≤ c1) (h : paternosterlaw11_MeterOrder.f l0 l1 = some r) :
    Calls Try.prog 14 #[.slice A0 l0.length c0, .slice A1 l1.length c1] w fun e w' => e = .returned (.bool r) ∧ Below w.heap.size w w' := by
  unfold paternosterlaw11_MeterOrder.f at h
  by_cases hin : in32 l0 = true ∧ in32 l1 = true
  rotate_left
  · rw [if_neg hin] at h; cases h
  rw [if_pos hin] at h
  obtain rfl := Option.some.inj h
  have HI := Aside0.mk hin
  have HR := Aside0.mk hr0
  have HR1 := Aside0.mk hr1
  clear h hc0 hc1 hin hr0 hr1
  have P0 := HI.out.1
  by_cases q1 : (l0.length : Int) > 100
  · clear P0
    go_enter Try.func14, Try.ntmps14
    go_wp2_with fail
    refine (paternosterlaw11_awake.calls true _ rfl).mono ?_
    rintro e w1 ⟨rfl, hb⟩
    have B1 := Aside0.mk hb
    clear hb
    go_wp2_with fail
    go_ret
    exact ⟨rfl, B1.out⟩
  · by_cases q2 : (l1.length : Int) > 100
    · clear P0
      go_enter Try.func14, Try.ntmps14
      go_wp2_with fail
      refine (paternosterlaw11_awake.calls true _ rfl).mono ?_
      rintro e w1 ⟨rfl, hb⟩
      have B1 := Aside0.mk hb
      clear hb
      go_wp2_with fail
      go_ret
      exact ⟨rfl, B1.out⟩
    · clear P0
      go_enter Try.func14, Try.ntmps14
      go_wp2_with fail
      refine (paternosterlaw11_awake.calls true _ rfl).mono ?_
      rintro e w1 ⟨rfl, hb⟩
      have B1 := Aside0.mk hb
      clear hb
      go_wp2_with fail
      go_loopw [6, 7, 8] (fun va vb i wr => ∃ k : Nat, k ≤ l0.length ∧ i = .int .i64 k ∧ Aside0 (Kd.R (Kd.int .i64) 3 wr w.heap.size (fun x => some x ≠ vb.ownBlock) va (l0.take k)) ∧ Aside0 (Kd.R (Kd.int .i64) 3 wr w.heap.size (fun x => some x ≠ va.ownBlock) vb (l0.reverse.take k)) ∧ Aside0 (Below w.heap.size w wr)) (fun _ _ i _ => l0.length - (intOf i).toNat)
      case atStart => exact ⟨0, Nat.zero_le _, rfl, ⟨Kd.R_nil _ _ _ _ _⟩, ⟨Kd.R_nil _ _ _ _ _⟩, B1⟩
      case round =>
        clear B1
        obtain ⟨k, hk, rfl, HA, HBv, B⟩ := hrel
        by_cases hlt : k < l0.length
        · have p1 : 0 ≤ (k : Int) := Int.natCast_nonneg _
          have p2 : (k : Int) < (l0.length : Int) := by omega
          have j1 : (0 : Int) ≤ ((l0.length - 1 - k : Nat) : Int) := Int.natCast_nonneg _
          have j2 : ((l0.length - 1 - k : Nat) : Int) < (l0.length : Int) := by omega
          obtain ⟨ad, e1, hx⟩ := Kd.at_int HR.out (k : Int) p1 p2
          obtain ⟨ad2, e2, hy⟩ := Kd.at_int HR.out ((l0.length - 1 - k : Nat) : Int) j1 j2
          cases e1
          cases e2
          replace hx := (B.out.cell (World.block_lt_of_cell? w _ hx)).trans hx
          rw [Int.toNat_natCast] at hx hy
          obtain ⟨x, hxe⟩ : ∃ x, rd l0 (k : Int) = x := ⟨_, rfl⟩
          obtain ⟨y, hye⟩ : ∃ y, rd l0 ((l0.length - 1 - k : Nat) : Int) = y := ⟨_, rfl⟩
          have x1 := in32_at HI.out.1 hlt
          have y1 := in32_at HI.out.1 (k := l0.length - 1 - k) (by omega)
          have TX := Aside0.mk (show l0.take (k + 1) = l0.take k ++ [x] by rw [rd_take hlt, hxe])
          have TY := Aside0.mk (show l0.reverse.take (k + 1) = l0.reverse.take k ++ [y] by rw [rd_take (by simpa using hlt), rd_rev hlt, hye])
          rw [hxe] at hx x1
          rw [hye] at hy y1
          obtain ⟨x1, x2⟩ := x1
          obtain ⟨y1, y2⟩ := y1
          have HY := Aside0.mk hy
          have LA := Aside0.mk (show (l0.take k).length = k by simp; omega)
          have LB := Aside0.mk (show (l0.reverse.take k).length = k by simp; omega)
          have e1 : IntKind.i64.wrap ((l0.length : Int) - 1) = (l0.length : Int) - 1 := by rw [IntKind.wrap_i64]; omega
          have e2 : IntKind.i64.wrap ((l0.length : Int) - 1 - (k : Int)) = (l0.length : Int) - 1 - (k : Int) := by rw [IntKind.wrap_i64]; omega
          have e3 : 0 ≤ (l0.length : Int) - 1 - (k : Int) := by omega
          have e4 : (l0.length : Int) - 1 - (k : Int) < (l0.length : Int) := by omega
          have e5 : ((l0.length : Int) - 1 - (k : Int)).toNat = l0.length - 1 - k := by omega
          have e6 : (k : Int) ≤ (l0.length : Int) - 1 := by omega
          have e7 : (l0.length : Int) - 1 < (l0.length : Int) + (k : Int) := by omega
          have e8 : ¬ (l0.length : Int) - 1 - (k : Int) < 0 := by omega
          have e9 : ¬ (l0.length : Int) - 1 < (k : Int) := by omega
          clear hxe hye hy j1 j2
          go_wp2_with (first
            | ((with_reducible refine gate_builtin (b := .append) (xs := #[.tmp 32, .tmp 38]) rfl ?_); at_builtin; refine Kd.R_append (Kd.int .i64) (w0 := w) w.heap.size rfl (.tmp 32) (.tmp 38) 52 3 (.int .i64 0) 8 rfl Try.underlying52 infoI rfl (by decide) (by omega) u6 (l0.take k) (x) [.int .i64 (x)] (fun q => some q ≠ (u7).ownBlock) (fun _ => False) rfl rfl ?aP (fun _ hk => hk.elim) ?aF ?aO ?aB ?aS ?aL ?_; (case aP => exact rfl); (case aB => exact (by repeat (first | (with_reducible first | exact B.out | apply below_alloc | apply pw_below_drewN | apply below_drew1) | exact B.out))); (case aF => exact Kd.fresh' (Kd.R_lt HBv.out)); (case aO => exact (by (with_reducible repeat (first | apply Kd.R_alloc | apply Kd.R_drewN | apply Kd.R_drew)); exact HA.out)); (case aS => exact (below_size (by repeat (first | (with_reducible first | exact B.out | apply below_alloc | apply pw_below_drewN | apply below_drew1) | exact B.out)))); (case aL => have := LA.out; omega); intro v158 w6 ho hb hg hat; have hoth := R_untrue (Kd.R_after (ok := fun _ => True) (R_true HBv.out) hg hat); rw [← TX.out] at ho; have hy := (hb.cell (World.block_lt_of_cell? w _ HY.out)).trans HY.out; have n0_ := Aside0.mk (hb); have n1_ := Aside0.mk (ho); have n2_ := Aside0.mk hoth; clear B HA HBv; have B := n0_; have HA := n1_; have HBv := n2_; clear n0_ n1_ n2_; clear ho hb hg hat hoth)
            | ((with_reducible refine gate_builtin (b := .append) (xs := #[.tmp 40, .tmp 50]) rfl ?_); at_builtin; refine Kd.R_append (Kd.int .i64) (w0 := w) w.heap.size rfl (.tmp 40) (.tmp 50) 52 3 (.int .i64 0) 8 rfl Try.underlying52 infoI rfl (by decide) (by omega) u7 (l0.reverse.take k) (y) [.int .i64 (y)] (fun q => some q ≠ v158.ownBlock) (fun _ => False) rfl rfl ?aP (fun _ hk => hk.elim) ?aF ?aO ?aB ?aS ?aL ?_; (case aP => exact rfl); (case aB => exact (by repeat (first | (with_reducible first | exact B.out | apply below_alloc | apply pw_below_drewN | apply below_drew1) | exact B.out))); (case aF => exact Kd.fresh' (Kd.R_lt HA.out)); (case aO => exact (by (with_reducible repeat (first | apply Kd.R_alloc | apply Kd.R_drewN | apply Kd.R_drew)); exact HBv.out)); (case aS => exact (below_size (by repeat (first | (with_reducible first | exact B.out | apply below_alloc | apply pw_below_drewN | apply below_drew1) | exact B.out)))); (case aL => have := LB.out; omega); intro v158 w6 ho hb hg hat; have hoth := R_untrue (Kd.R_after (ok := fun _ => True) (R_true HA.out) hg hat); rw [← TY.out] at ho; skip; have n0_ := Aside0.mk (hb); have n1_ := Aside0.mk (ho); have n2_ := Aside0.mk hoth; clear B HBv HA; have B := n0_; have HBv := n1_; have HA := n2_; clear n0_ n1_ n2_; clear ho hb hg hat hoth))
          go_roundw
          case rel => exact ⟨k + 1, by omega, by go_num, HA, HBv, B⟩
          case measure => simp [intOf]; omega
        · have e1 : l0.take k = l0 := List.take_of_length_le (by omega)
          have e2 : l0.reverse.take k = l0.reverse := List.take_of_length_le (by simp; omega)
          rw [e1] at HA
          rw [e2] at HBv
          have hkd : ¬ (k : Int) < (l0.length : Int) := by omega
          clear e1 e2
          go_wp2_with fail
          go_loopw [7, 9] (fun vb i wr => ∃ k : Nat, k ≤ l1.length ∧ i = .int .i64 k ∧ Aside0 (Kd.R (Kd.int .i64) 3 wr w.heap.size (fun x => some x ≠ vb.ownBlock) u6 l0) ∧ Aside0 (Kd.R (Kd.int .i64) 3 wr w.heap.size (fun x => some x ≠ u6.ownBlock) vb (l0.reverse ++ backs (l1.take k))) ∧ Aside0 (Below w.heap.size w wr)) (fun _ i _ => l1.length - (intOf i).toNat)
          case atStart => exact ⟨0, Nat.zero_le _, rfl, HA, ⟨by rw [List.take_zero]; simpa [backs] using HBv.out⟩, B⟩
          case round =>
            clear B HA HBv
            obtain ⟨k, hk, rfl, HA, HBv, B⟩ := hrel
            by_cases hlt : k < l1.length
            · have p1 : 0 ≤ (k : Int) := Int.natCast_nonneg _
              have p2 : (k : Int) < (l1.length : Int) := by omega
              obtain ⟨ad, e1, hx⟩ := Kd.at_int HR1.out (k : Int) p1 p2
              cases e1
              replace hx := (B.out.cell (World.block_lt_of_cell? w _ hx)).trans hx
              rw [Int.toNat_natCast] at hx
              obtain ⟨x, hxe⟩ : ∃ x, rd l1 (k : Int) = x := ⟨_, rfl⟩
              have x1 := in32_at HI.out.2 hlt
              obtain ⟨xs, hxs⟩ : ∃ xs, l0.reverse ++ backs (l1.take k) = xs := ⟨_, rfl⟩
              have TX := Aside0.mk (show l0.reverse ++ backs (l1.take (k + 1)) = xs ++ [mn x (-x)] by rw [backs_succ hlt, hxe, ← hxs, List.append_assoc])
              have LX := Aside0.mk (show xs.length ≤ 200 by rw [← hxs]; simp [backs]; omega)
              rw [hxs] at HBv
              rw [hxe] at hx x1
              obtain ⟨x1, x2⟩ := x1
              clear hxe hxs
              go_wp2_with (first
                | ((with_reducible refine gate_builtin (b := .append) (xs := #[.tmp 63, .tmp 68]) rfl ?_); at_builtin; refine Kd.R_append (Kd.int .i64) (w0 := w) w.heap.size rfl (.tmp 63) (.tmp 68) 52 3 (.int .i64 0) 8 rfl Try.underlying52 infoI rfl (by decide) (by omega) u7 xs (mn x (-x)) [.int .i64 (mn x (-x))] (fun q => some q ≠ u6.ownBlock) (fun _ => False) rfl rfl ?aP (fun _ hk => hk.elim) ?aF ?aO ?aB ?aS ?aL ?_; (case aP => exact rfl); (case aB => exact (by repeat (first | (with_reducible first | exact B.out | apply below_alloc | apply pw_below_drewN | apply below_drew1) | exact B.out))); (case aF => exact Kd.fresh' (Kd.R_lt HA.out)); (case aO => exact (by (with_reducible repeat (first | apply Kd.R_alloc | apply Kd.R_drewN | apply Kd.R_drew)); exact HBv.out)); (case aS => exact (below_size (by repeat (first | (with_reducible first | exact B.out | apply below_alloc | apply pw_below_drewN | apply below_drew1) | exact B.out)))); (case aL => have := LX.out; omega); intro v158 w6 ho hb hg hat; have hoth := R_untrue (Kd.R_after (ok := fun _ => True) (R_true HA.out) hg hat); rw [← TX.out] at ho; have n0_ := Aside0.mk (hb); have n1_ := Aside0.mk (ho); have n2_ := Aside0.mk hoth; clear B HBv HA; have B := n0_; have HBv := n1_; have HA := n2_; clear n0_ n1_ n2_; clear ho hb hg hat hoth))
              go_roundw
              case rel => exact ⟨k + 1, by omega, by go_num, HA, HBv, B⟩
              case measure => simp [intOf]; omega
            · have e1 : l1.take k = l1 := List.take_of_length_le (by omega)
              rw [e1] at HBv
              have hkd : ¬ (k : Int) < (l1.length : Int) := by omega
              obtain ⟨bs, hbs⟩ : ∃ bs, l0.reverse ++ backs l1 = bs := ⟨_, rfl⟩
              have VB := Aside0.mk (show sumV bs = sumV l0 by rw [← hbs]; exact order_v l0 l1)
              have LBs := Aside0.mk (show bs.length ≤ 200 by rw [← hbs]; simp [backs]; omega)
              rw [hbs] at HBv
              obtain ⟨Aa, ca, rfl⟩ := Kd.R_slice HA.out
              obtain ⟨Ab, cb, rfl⟩ := Kd.R_slice HBv.out
              have HA0 := Aside0.mk (R_top HA.out)
              have HB0 := Aside0.mk (R_top HBv.out)
              obtain ⟨N, hN⟩ : ∃ N, wr.heap.size = N := ⟨_, rfl⟩
              rw [hN] at HA0 HB0
              have HN := Aside0.mk hN
              clear e1 hN HA HBv hbs
              go_wp2_with fail
              refine (new_any _).mono ?_
              rintro e w2 ⟨rfl, m, hb⟩
              rw [HN.out] at m
              have M2 := Aside0.mk m
              have G2 := Aside0.mk (show N < w2.heap.size from MB.lt m)
              have A2 := Aside0.mk (R_ok HA0.out hb)
              have B2 := Aside0.mk (R_ok HB0.out hb)
              have C2 := Aside0.mk (B.out.trans (hb.mono (below_size B.out)))
              rw [HN.out]
              clear m hb HA0 HB0
              go_wp2_with fail
              refine (new_any _).mono ?_
              rintro e w3 ⟨rfl, m, hb⟩
              obtain ⟨g, hg⟩ : ∃ g, w2.heap.size = g := ⟨_, rfl⟩
              rw [hg] at m ⊢
              have HG := Aside0.mk (show N < g by have := G2.out; omega)
              have HGw := Aside0.mk (show w.heap.size ≤ N by have := below_size B.out; rw [HN.out] at this; exact this)
              have N3 := Aside0.mk m
              have M3 := Aside0.mk (M2.out.below hb)
              have A3 := Aside0.mk (R_ok A2.out hb)
              have B3 := Aside0.mk (R_ok B2.out hb)
              have C3 := Aside0.mk (C2.out.trans (hb.mono (below_size C2.out)))
              clear m hb A2 B2 C2 M2 G2 hg
              go_wp2_with fail
              refine (tick_v N 0 0 0 1 _ _ l0 _ M3.out (Kd.R_reads' A3.out).2.2 (by omega) (by decide +kernel)).mono ?_
              rintro e w4 ⟨rfl, m, hk⟩
              rw [mx0] at m
              have M4 := Aside0.mk m
              have N4 := Aside0.mk (N3.out.but hk (by have := HG.out; omega))
              have A4 := Aside0.mk (R_but A3.out hk (Nat.le_refl _))
              have B4 := Aside0.mk (R_but B3.out hk (Nat.le_refl _))
              have C4 := Aside0.mk (hk.to C3.out (below_size C3.out) HGw.out)
              clear m hk A3 B3 C3 M3 N3
              go_wp2_with fail
              refine (tick_v g 0 0 0 1 _ _ [7] _ (N4.out.below (below_alloc (Below.refl _ _) _)) (lit_C (blk_new w4 _) (by decide)) (by decide) (by decide +kernel)).mono ?_
              rintro e w5 ⟨rfl, m, hk⟩
              rw [show sumV [7] = 7 by decide, show mx 0 7 = 7 by decide] at m
              have hba : Below w4.heap.size w4 (w4.alloc (.cells #[.int .i64 7] 3)) := below_alloc (Below.refl _ _) _
              have N5 := Aside0.mk m
              have M5 := Aside0.mk ((M4.out.below hba).but hk (by have := HG.out; omega))
              have B5 := Aside0.mk (R_but (R_ok B4.out hba) hk (by have := HG.out; omega))
              have C5 := Aside0.mk (hk.to (below_alloc C4.out _) (below_size (below_alloc C4.out _)) (by have := HG.out; have := HGw.out; omega))
              clear m hk A4 B4 C4 M4 N4 hba
              go_wp2_with fail
              refine (tick_v g 7 7 1 2 _ _ bs _ N5.out (Kd.R_reads' B5.out).2.2 (by have := LBs.out; omega) (by decide +kernel)).mono ?_
              rintro e w6 ⟨rfl, m, hk⟩
              rw [VB.out, mx_comm] at m
              rw [VB.out]
              have N6 := Aside0.mk m
              have M6 := Aside0.mk (M5.out.but hk (by have := HG.out; omega))
              have C6 := Aside0.mk (hk.to C5.out (below_size C5.out) (by have := HG.out; have := HGw.out; omega))
              clear m hk B5 C5 M5 N5
              obtain ⟨S, hS⟩ : ∃ S, sumV l0 = S := ⟨_, rfl⟩
              rw [hS] at M6 N6 ⊢
              clear hS VB
              go_wp2_with (first
                | (go_at_call 32; refine (last_any N S S 1 _ M6.out).mono ?_; rintro e w7 ⟨rfl, rfl⟩)
                | (go_at_call 33; refine (high_any g S (mx S 7) 2 _ N6.out).mono ?_; rintro e w7 ⟨rfl, rfl⟩)
                | (go_at_call 33; refine (high_any N S S 1 _ M6.out).mono ?_; rintro e w7 ⟨rfl, rfl⟩))
              go_ret
              exact ⟨rfl, C6.out⟩
end Go.Proofs.Ytnhiokgkhbiflaa.X
