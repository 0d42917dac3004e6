/- MeterHigh, walked: the most that was metered is what one tick told, and no tick told more. -/
import Derived.Test.YtnhiokgkhbiflaaMeterOrder
import Derived.Deep.RegionLaw
namespace Go.Proofs.Ytnhiokgkhbiflaa.X
open Go.RowKit Go.Proofs.YtnhiokgkhbiflaaW.PrintWords Go.Proofs.YtnhiokgkhbiflaaW.PrintLast Go.Proofs.YtnhiokgkhbiflaaW.PrintMore
attribute [local go_sem] max2_mx min2_mn max_two min_two
set_option linter.unusedVariables false
set_option linter.unusedSimpArgs false

/-- The most of a row, and of 0. -/
def hiV (T : List Int) : Int := T.foldl mx 0
theorem fold_mx_mem (T : List Int) : ∀ a : Int, T.foldl mx a = a ∨ T.foldl mx a ∈ T := by
  induction T with
  | nil => intro a; exact .inl rfl
  | cons x T ih =>
    intro a
    rw [List.foldl_cons]
    rcases ih (mx a x) with h | h
    · rw [h]
      unfold mx
      split
      · exact .inr List.mem_cons_self
      · exact .inl rfl
    · exact .inr (List.mem_cons_of_mem _ h)
theorem fold_mx_ge (T : List Int) : ∀ a : Int, a ≤ T.foldl mx a ∧ ∀ x ∈ T, x ≤ T.foldl mx a := by
  induction T with
  | nil => intro a; exact ⟨Int.le_refl _, fun x hx => by cases hx⟩
  | cons y T ih =>
    intro a
    rw [List.foldl_cons]
    obtain ⟨h1, h2⟩ := ih (mx a y)
    have h3 : a ≤ mx a y ∧ y ≤ mx a y := by unfold mx; split <;> omega
    refine ⟨by omega, fun x hx => ?_⟩
    rcases List.mem_cons.1 hx with rfl | hx
    · omega
    · exact h2 x hx
theorem hiV_snoc (T : List Int) (x : Int) : hiV (T ++ [x]) = mx (hiV T) x := by simp [hiV, List.foldl_append]
/-- What each tick told. -/
def toldV (l : List (List Int)) : List Int := l.map sumV
theorem toldV_succ {l : List (List Int)} {k : Nat} (h : k < l.length) : toldV (l.take (k + 1)) = toldV (l.take k) ++ [sumV (rd_L3 l (k : Int))] := by
  unfold toldV rd_L3
  rw [List.take_succ_eq_append_getElem h, List.map_append, Int.toNat_natCast, List.getD_eq_getElem?_getD, List.getElem?_eq_getElem h]; rfl
theorem toldV_nonneg (l : List (List Int)) : ∀ x ∈ toldV l, 0 ≤ x := by
  intro x hx
  obtain ⟨y, _, rfl⟩ := List.mem_map.1 hx
  exact (sumV_bd y).1
/-- Whether one of the first k is the most. -/
def isV (T : List Int) (k : Nat) : Bool := T.isEmpty || (T.take k).any fun x => decide (x = hiV T)
theorem rd_at {T : List Int} {k : Nat} (h : k < T.length) : rd T (k : Int) = T[k] := by
  unfold rd; rw [List.getD_eq_getElem?_getD, Int.toNat_natCast, List.getElem?_eq_getElem h]; rfl
theorem isV_succ {T : List Int} {k : Nat} (h : k < T.length) : isV T (k + 1) = (isV T k || decide (rd T (k : Int) = hiV T)) := by
  unfold isV
  rw [rd_take h, List.any_append, Bool.or_assoc]; simp
theorem isV_end (T : List Int) (h : ∀ x ∈ T, 0 ≤ x) : isV T T.length = true := by
  unfold isV
  rw [List.take_length]
  cases T with
  | nil => rfl
  | cons y T =>
    rw [Bool.or_eq_true]
    refine .inr (List.any_eq_true.2 ⟨hiV (y :: T), ?_, by simp⟩)
    have h0 := h y List.mem_cons_self
    have e : hiV (y :: T) = T.foldl mx y := by
      unfold hiV
      rw [List.foldl_cons]
      congr 1
      unfold mx; split <;> omega
    rw [e]
    rcases fold_mx_mem T y with h1 | h1
    · rw [h1]; exact List.mem_cons_self
    · exact List.mem_cons_of_mem _ h1
theorem R_gbut {e base g : Nat} {w w1 : World} {v : Value} {xs : List Int} (h : (Kd.int .i64).R e w base (fun k => k ≠ g) v xs) (hk : But g w w1) : (Kd.int .i64).R e w1 base (fun k => k ≠ g) v xs :=
  Kd.R_mono (Kd.R_move (Kd.R_bound h) (fun k hq => hk.keep.2 k hq.2.2.1 hq.1)) (fun _ hq => hq.1)
/-- The meter and what it told, at a world. -/
def Q2 (w : World) (g : Nat) (a hh n : Int) (v : Value) (T : List Int) (W : World) : Prop :=
  MB g a hh n W ∧ (Kd.int .i64).R 3 W w.heap.size (fun q => q ≠ g) v T ∧ Below w.heap.size w W
section
variable {w : World} {g : Nat} {a hh n : Int} {v : Value} {T : List Int} {W : World}
theorem Q2.drew (h : Q2 w g a hh n v T W) : Q2 w g a hh n v T W.drew := ⟨h.1, Kd.R_drew h.2.1, h.2.2.drew⟩
theorem high_q (h : Q2 w g a hh n v T W) : Calls Try.prog 33 #[.pointer (some ⟨g, 0, none⟩)] W fun e w' => e = .returned (.int .i64 hh) ∧ w' = W := high_any g a hh n W h.1
theorem ticks_q (h : Q2 w g a hh n v T W) : Calls Try.prog 34 #[.pointer (some ⟨g, 0, none⟩)] W fun e w' => e = .returned (.int .i64 n) ∧ w' = W := ticks_any g a hh n W h.1
theorem Q2.at {A : Option Addr} {c : Nat} (h : Q2 w g a hh n (.slice A T.length c) T W) {k : Nat} (hk : k < T.length) : ∃ ad, A = some ad ∧ W.cell? (ad.add k) = some (.int .i64 (rd T (k : Int))) := by
  obtain ⟨ad, e, hx⟩ := Kd.at_int (Kd.R_reads' h.2.1).2.2 (k : Int) (Int.natCast_nonneg _) (by omega)
  rw [Int.toNat_natCast] at hx
  exact ⟨ad, e, hx⟩
end
def paternosterlaw11_MeterHigh.f (l0 : List (List Int)) : Option Bool := some true
set_option maxRecDepth 100000 in
set_option maxHeartbeats 8000000 in
theorem paternosterlaw11_MeterHigh.calls (A0 : Option Addr) (c0 : Nat) (l0 : List (List Int)) (r : Bool) (w : World) (hr0 : Kd.C (Kd.slice 3 (Kd.int .i64)) w A0 l0.length l0) (hc0 : l0.length ≤ c0) (h : paternosterlaw11_MeterHigh.f l0 = some r) :
    Calls Try.prog 15 #[.slice A0 l0.length c0] w fun e w' => e = .returned (.bool r) ∧ Below w.heap.size w w' := by
  obtain rfl := Option.some.inj h
  clear h hc0
  have HR := Aside0.mk hr0
  clear hr0
  by_cases q1 : (l0.length : Int) > 100
  · go_enter Try.func15, Try.ntmps15
    go_wp2_with fail
    refine (paternosterlaw11_awake.calls true _ rfl).mono ?_
    rintro e w1 ⟨rfl, hb⟩
    have B1 := Aside0.mk hb
    clear hb
    go_wp2_with fail
    go_ret
    exact ⟨rfl, B1.out⟩
  · go_enter Try.func15, Try.ntmps15
    go_wp2_with fail
    refine (paternosterlaw11_awake.calls true _ rfl).mono ?_
    rintro e w1 ⟨rfl, hb⟩
    have B1 := Aside0.mk hb
    clear hb
    go_wp2_with fail
    refine (new_any _).mono ?_
    rintro e w2 ⟨rfl, m, hb⟩
    obtain ⟨g, hg⟩ : ∃ g, w1.heap.size = g := ⟨_, rfl⟩
    have G1 := Aside0.mk (show w.heap.size ≤ g by rw [← hg]; exact B1.out.size)
    rw [hg] at m
    rw [hg]
    have M0 := Aside0.mk m
    have B2 := Aside0.mk (below_step B1.out hb)
    clear m hb hg
    go_wp2_with fail
    go_loopw [5, 6] (fun tv i wr => ∃ (k : Nat) (a hh : Int), k ≤ l0.length ∧ i = .int .i64 k ∧ Aside0 (hh = hiV (toldV (l0.take k))) ∧ Aside0 (MB g a hh k wr) ∧ Aside0 (Kd.R (Kd.int .i64) 3 wr w.heap.size (fun q => q ≠ g) tv (toldV (l0.take k))) ∧ Aside0 (Below w.heap.size w wr)) (fun _ i _ => l0.length - (intOf i).toNat)
    case atStart => exact ⟨0, 0, 0, Nat.zero_le _, rfl, ⟨rfl⟩, M0, ⟨Kd.R_nil _ _ _ _ _⟩, B2⟩
    case round =>
      clear M0 B2
      obtain ⟨k, a, hh, hk, rfl, HH, M, HT, B⟩ := hrel
      by_cases hlt : k < l0.length
      · have p1 : 0 ≤ (k : Int) := Int.natCast_nonneg _
        have q2 : (k : Int) < (l0.length : Int) := by omega
        obtain ⟨ad, A1, c1, e1, hx, hle, hC⟩ := at_L3 HR.out (k : Int) p1 q2
        cases e1
        replace hx := (B.out.cell (World.block_lt_of_cell? w _ hx)).trans hx
        obtain ⟨zs, hz⟩ : ∃ zs, rd_L3 l0 (k : Int) = zs := ⟨_, rfl⟩
        have hsu := toldV_succ hlt
        rw [hz] at hx hC hle hsu
        rw [Int.toNat_natCast] at hx
        have HC := Aside0.mk hC
        have HLE := Aside0.mk hle
        clear hC hle hz
        by_cases q3 : (zs.length : Int) > 60
        · clear hsu
          go_wp2_with fail
          go_ret
          exact ⟨rfl, B.out⟩
        · obtain ⟨n, hn⟩ : ∃ n, sumV zs = n := ⟨_, rfl⟩
          obtain ⟨ts, hts⟩ : ∃ ts, toldV (l0.take k) = ts := ⟨_, rfl⟩
          rw [hn, hts] at hsu
          rw [hts] at HT HH
          have LT := Aside0.mk (show ts.length ≤ 100 by rw [← hts]; simp [toldV]; omega)
          have HN := Aside0.mk hn
          have HSU := Aside0.mk hsu
          have HK1 := Aside0.mk (show wrap64 ((k : Int) + 1) = (k : Int) + 1 from wrap_in (by omega) (by omega))
          clear hn hsu hts
          go_wp2_with fail
          refine (tick_v g a hh k ((k : Int) + 1) _ c1 zs _ M.out (Kd.C_below HC.out B.out) (by omega) HK1.out).mono ?_
          rintro e w4 ⟨rfl, m, hk4⟩
          rw [HN.out] at m
          rw [HN.out]
          have M4 := Aside0.mk m
          have T4 := Aside0.mk (R_gbut HT.out hk4)
          have B4 := Aside0.mk (But.to hk4 B.out B.out.size G1.out)
          clear m hk4 hx
          go_wp2_with (first
            | ((with_reducible refine gate_builtin (b := .append) (xs := #[.tmp 28, .tmp 35]) rfl ?_); at_builtin; refine Kd.R_append (Kd.int .i64) (w0 := w) w.heap.size rfl (.tmp 28) (.tmp 35) 52 3 (.int .i64 0) 8 rfl Try.underlying52 infoI rfl (by decide) (by omega) u5 ts n [.int .i64 n] (fun q => q ≠ g) (fun _ => False) rfl rfl ?aP (fun _ hk => hk.elim) ?aF ?aO ?aB ?aS ?aL ?_; (case aP => exact rfl); (case aB => exact (by repeat (first | (with_reducible first | exact B4.out | apply below_alloc | apply pw_below_drewN | apply below_drew1) | exact B4.out))); (case aF => exact (fun q hq he => by have := MB.lt M4.out; omega)); (case aO => exact (by (with_reducible repeat (first | apply Kd.R_alloc | apply Kd.R_drewN | apply Kd.R_drew)); exact T4.out)); (case aS => exact (below_size (by repeat (first | (with_reducible first | exact B4.out | apply below_alloc | apply pw_below_drewN | apply below_drew1) | exact B4.out)))); (case aL => have := LT.out; omega); intro v158 w6 ho hb hg hat; have n2_ := Aside0.mk (show MB g n (mx hh n) ((k : Int) + 1) w6 from (hg.block g (MB.lt M4.out) (Kd.R_away T4.out (fun _ hq => hq))).trans M4.out); rw [← HSU.out] at ho; have n0_ := Aside0.mk (hb); have n1_ := Aside0.mk (ho); clear B4 T4 M4; have B4 := n0_; have T4 := n1_; have M4 := n2_; clear n0_ n1_ n2_; clear ho hb hg hat))
          go_roundw
          case rel => exact ⟨k + 1, n, mx hh n, by omega, by go_num, ⟨by rw [HSU.out, hiV_snoc, ← HH.out]⟩, by simpa using M4, T4, B4⟩
          case measure => simp [intOf]; omega
      · have hkd : ¬ (k : Int) < (l0.length : Int) := by omega
        obtain rfl : k = l0.length := by omega
        rw [List.take_length] at HT HH
        obtain ⟨T, hT⟩ : ∃ T, toldV l0 = T := ⟨_, rfl⟩
        rw [hT] at HT HH
        have HP := Aside0.mk (show ∀ x ∈ T, 0 ≤ x by rw [← hT]; exact toldV_nonneg l0)
        have HL := Aside0.mk (show T.length = l0.length by rw [← hT]; simp [toldV])
        obtain ⟨At, ct, rfl⟩ := Kd.R_slice HT.out
        clear hT
        have HQ := Aside0.mk (show Q2 w g a hh (l0.length : Int) (.slice At T.length ct) T wr from ⟨M.out, HT.out, B.out⟩)
        clear M HT B HR
        by_cases hz : T.length = 0
        · obtain rfl := List.eq_nil_of_length_eq_zero hz
          obtain rfl : hh = 0 := HH.out
          have HL0 : l0.length = 0 := HL.out.symm
          clear hz HL HH
          go_wp2_with (first
            | (go_at_call 33; refine (high_q HQ.out).mono ?_; rintro e w7 ⟨rfl, rfl⟩))
          go_loopw [7, 8] (fun iv i wr' => iv = .bool true ∧ i = .int .i64 0 ∧ Aside0 (Q2 w g a 0 (l0.length : Int) (.slice At 0 ct) [] wr')) (fun _ _ _ => 0)
          case atStart => exact ⟨rfl, rfl, HQ⟩
          case round =>
            clear HQ
            obtain ⟨rfl, rfl, HQ⟩ := hrel
            go_wp2_with (first
              | (go_at_call 34; refine (ticks_q HQ.out).mono ?_; rintro e w7 ⟨rfl, rfl⟩))
            go_ret
            exact ⟨rfl, HQ.out.2.2⟩
        · have hz' : ¬ (T.length : Int) = 0 := by omega
          have HZ := Aside0.mk (show isV T 0 = false by unfold isV; cases T with | nil => exact absurd rfl hz | cons y T => rfl)
          have HLe : (l0.length : Int) = T.length := by have := HL.out; omega
          go_wp2_with fail
          go_loopw [7, 8] (fun iv i wr' => ∃ k : Nat, k ≤ T.length ∧ iv = .bool (isV T k) ∧ i = .int .i64 k ∧ Aside0 (Q2 w g a hh (l0.length : Int) (.slice At T.length ct) T wr')) (fun _ i _ => T.length - (intOf i).toNat)
          case atStart => exact ⟨0, Nat.zero_le _, by rw [HZ.out], rfl, HQ⟩
          case round =>
            clear HQ
            obtain ⟨k, hk, rfl, rfl, HQ⟩ := hrel
            by_cases hlt : k < T.length
            · have p1 : 0 ≤ (k : Int) := Int.natCast_nonneg _
              have p2 : (k : Int) < (T.length : Int) := by omega
              obtain ⟨ad, e1, hx⟩ := HQ.out.at hlt
              cases e1
              have hsu := isV_succ hlt
              obtain ⟨x, hxe⟩ : ∃ x, rd T (k : Int) = x := ⟨_, rfl⟩
              have hmem : x ∈ T := by rw [← hxe, rd_at hlt]; exact List.getElem_mem _
              have x1 : x ≤ hh := by rw [HH.out]; exact (fold_mx_ge T 0).2 x hmem
              have x2 : 0 ≤ x := HP.out x hmem
              rw [hxe] at hx hsu
              rw [← HH.out] at hsu
              have x3 : ¬ hh < x := by omega
              have x4 : ¬ x < 0 := by omega
              have x5 : decide (hh < x) = false := decide_eq_false x3
              have x6 : decide (x < 0) = false := decide_eq_false x4
              obtain ⟨b, hb⟩ : ∃ b, isV T k = b := ⟨_, rfl⟩
              rw [hb] at hsu ⊢
              have HSU := Aside0.mk hsu
              have HQd := Aside0.mk (HQ.out.drew)
              clear hxe hmem hsu hb
              go_wp2_with fail
              go_region_held3 (fun w' => w'.cell? (ad.add k) = some (.int .i64 x) ∧ Aside0 (Q2 w g a hh (l0.length : Int) (.slice (some ad) T.length ct) T w'))
                (first | exact ⟨hx, HQd⟩ | go_keep)
                (first
                  | (go_at_call 33; refine (high_q HQd.out).mono ?_; rintro e w7 ⟨rfl, rfl⟩))
              have HQe := Aside0.mk (HQd.out.drew)
              clear HQ
              cases b with
              | true =>
                go_wp2_with fail
                first | (go_region_law fail) | go_region
                all_goals
                  go_wp2_with fail
                  exact ⟨⟨k + 1, by omega, by rw [HSU.out]; rfl, by go_num, HQe⟩, by simp [intOf]; omega⟩
              | false =>
                go_wp2_with fail
                go_region_held3 (fun w' => w'.cell? (ad.add k) = some (.int .i64 x) ∧ Aside0 (Q2 w g a hh (l0.length : Int) (.slice (some ad) T.length ct) T w'))
                  (first | exact ⟨hx, HQe⟩ | go_keep)
                  (first
                    | (go_at_call 33; refine (high_q HQe.out).mono ?_; rintro e w7 ⟨rfl, rfl⟩))
                go_wp2_with fail
                go_roundw
                case rel => exact ⟨k + 1, by omega, by rw [HSU.out, Bool.false_or]; rfl, by go_num, HQe⟩
                case measure => simp [intOf]; omega
            · have hkd : ¬ (k : Int) < (T.length : Int) := by omega
              obtain rfl : k = T.length := by omega
              rw [isV_end T HP.out]
              go_wp2_with (first
                | (go_at_call 34; refine (ticks_q HQ.out).mono ?_; rintro e w7 ⟨rfl, rfl⟩))
              go_ret
              exact ⟨rfl, HQ.out.2.2⟩
end Go.Proofs.Ytnhiokgkhbiflaa.X
