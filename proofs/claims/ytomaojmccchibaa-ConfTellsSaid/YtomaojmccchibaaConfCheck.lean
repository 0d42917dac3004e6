/- Whether a group may be: rule by rule. -/
import Derived.Test.YtomaojmccchibaaConfOrdered
import Derived.Laws.EntriesVeiled
namespace Go.Proofs.Ytomaojmccchibaa.X
open Go.RowKit Go.Proofs.YtomaojmccchibaaW.PrintWords Go.Proofs.YtomaojmccchibaaW.PrintLast Go.Proofs.YtomaojmccchibaaW.PrintMore
set_option linter.unusedVariables false
set_option linter.unusedSimpArgs false

/-- Whether a group may be. -/
def checkV (l : List S38) (x1 x2 : Int) (o : List Int) (x4 x5 x6 x7 x8 x9 x10 x11 x12 : Int) : Bool :=
  inV l.length 1 8 && (!l.any badB && ((inV x1 2 32 && inV x2 0 (wrap64 (x1 - 1))) && ((inV x4 1 8 && inV x5 1 16) && (!([x6, x7, x8, x10] : List Int).any badI && ((inV x9 0 8 && inV x11 0 100 && inV x12 0 1048576) && ordV l o)))))
def conf_Check.f (l0_0 : List S38) (a0_1 : Int) (a0_2 : Int) (l0_3 : List Int) (a0_4 : Int) (a0_5 : Int) (a0_6 : Int) (a0_7 : Int) (a0_8 : Int) (a0_9 : Int) (a0_10 : Int) (a0_11 : Int) (a0_12 : Int) : Option Bool :=
  if l0_3.length ≤ maxLen then some (checkV l0_0 a0_1 a0_2 l0_3 a0_4 a0_5 a0_6 a0_7 a0_8 a0_9 a0_10 a0_11 a0_12) else none
theorem rules_any (w : World) : Calls Try.prog 49 #[] w fun e w' => e = .returned (.slice (some ⟨w.heap.size, 0, none⟩) 7 7) ∧ w'.heap[w.heap.size]? = some (.cells #[.func (.func 61) #[] #[], .func (.func 63) #[] #[], .func (.func 66) #[] #[], .func (.func 67) #[] #[], .func (.func 68) #[] #[], .func (.func 71) #[] #[], .func (.func 72) #[] #[]] 66 (0, 0)) ∧ Below w.heap.size w w' := by
  go_enter Try.func49, Try.ntmps49
  go_wp2_with fail
  go_ret
  exact ⟨rfl, (blk_new w _).trans rfl, below_alloc (Below.refl _ _) _⟩
/-- The k-th of seven. -/
def sel (q0 q1 q2 q3 q4 q5 q6 : Bool) : Nat → Bool
  | 0 => q0 | 1 => q1 | 2 => q2 | 3 => q3 | 4 => q4 | 5 => q5 | _ => q6
/-- The rules in memory. -/
def RX (g : Nat) (w : World) : Prop := w.heap[g]? = some (.cells #[.func (.func 61) #[] #[], .func (.func 63) #[] #[], .func (.func 66) #[] #[], .func (.func 67) #[] #[], .func (.func 68) #[] #[], .func (.func 71) #[] #[], .func (.func 72) #[] #[]] 66 (0, 0))
set_option maxRecDepth 100000 in
set_option maxHeartbeats 8000000 in
theorem check_any (A B : Option Addr) (cn cm : Nat) (x1 x2 x4 x5 x6 x7 x8 x9 x10 x11 x12 : Int) (w : World) (l : List S38) (o : List Int) (hr : Kd.C k38 w A l.length l) (hcn : l.length ≤ cn) (ho : Kd.C (Kd.int .i64) w B o.length o) (hcm : o.length ≤ cm) (hol : o.length ≤ maxLen) :
    Calls Try.prog 19 #[confV A B l.length cn o.length cm x1 x2 x4 x5 x6 x7 x8 x9 x10 x11 x12] w fun e w' => e = .returned (.bool (checkV l x1 x2 o x4 x5 x6 x7 x8 x9 x10 x11 x12)) ∧ Below w.heap.size w w' := by
  have HR := Aside0.mk hr
  have HO := Aside0.mk ho
  have HC := Aside0.mk hcn
  have HCM := Aside0.mk hcm
  clear hr ho hcn hcm
  unfold confV checkV
  obtain ⟨q0, h0⟩ : ∃ q, inV l.length 1 8 = q := ⟨_, rfl⟩
  rw [h0]
  have H0 := Aside0.mk h0
  clear h0
  obtain ⟨q1, h1⟩ : ∃ q, (!l.any badB) = q := ⟨_, rfl⟩
  rw [h1]
  have H1 := Aside0.mk h1
  clear h1
  obtain ⟨q2, h2⟩ : ∃ q, (inV x1 2 32 && inV x2 0 (wrap64 (x1 - 1))) = q := ⟨_, rfl⟩
  rw [h2]
  have H2 := Aside0.mk h2
  clear h2
  obtain ⟨q3, h3⟩ : ∃ q, (inV x4 1 8 && inV x5 1 16) = q := ⟨_, rfl⟩
  rw [h3]
  have H3 := Aside0.mk h3
  clear h3
  obtain ⟨q4, h4⟩ : ∃ q, (!([x6, x7, x8, x10] : List Int).any badI) = q := ⟨_, rfl⟩
  rw [h4]
  have H4 := Aside0.mk h4
  clear h4
  obtain ⟨q5, h5⟩ : ∃ q, (inV x9 0 8 && inV x11 0 100 && inV x12 0 1048576) = q := ⟨_, rfl⟩
  rw [h5]
  have H5 := Aside0.mk h5
  clear h5
  obtain ⟨q6, h6⟩ : ∃ q, ordV l o = q := ⟨_, rfl⟩
  rw [h6]
  have H6 := Aside0.mk h6
  clear h6
  go_enter Try.func19, Try.ntmps19
  go_wp2_with fail
  obtain ⟨g, hg⟩ : ∃ g, w.heap.size = g := ⟨_, rfl⟩
  have hsz : (w.alloc (.cells #[.slice A l.length cn, .int .i64 x1, .int .i64 x2, .slice B o.length cm, .int .i64 x4, .int .i64 x5, .int .i64 x6, .int .i64 x7, .int .i64 x8, .int .i64 x9, .int .i64 x10, .int .i64 x11, .int .i64 x12] 25)).heap.size = g + 1 := by rw [alloc_sz, hg]
  have hx0 : BX A B l.length cn o.length cm x1 x2 x4 x5 x6 x7 x8 x9 x10 x11 x12 g (w.alloc (.cells #[.slice A l.length cn, .int .i64 x1, .int .i64 x2, .slice B o.length cm, .int .i64 x4, .int .i64 x5, .int .i64 x6, .int .i64 x7, .int .i64 x8, .int .i64 x9, .int .i64 x10, .int .i64 x11, .int .i64 x12] 25)) := by
    rw [← hg]; unfold BX; exact blk_new w _
  have hb0 : Below w.heap.size w (w.alloc (.cells #[.slice A l.length cn, .int .i64 x1, .int .i64 x2, .slice B o.length cm, .int .i64 x4, .int .i64 x5, .int .i64 x6, .int .i64 x7, .int .i64 x8, .int .i64 x9, .int .i64 x10, .int .i64 x11, .int .i64 x12] 25)) := below_alloc (Below.refl _ _) _
  generalize w.alloc (.cells #[.slice A l.length cn, .int .i64 x1, .int .i64 x2, .slice B o.length cm, .int .i64 x4, .int .i64 x5, .int .i64 x6, .int .i64 x7, .int .i64 x8, .int .i64 x9, .int .i64 x10, .int .i64 x11, .int .i64 x12] 25) = W1 at hsz hx0 hb0 ⊢
  refine (rules_any _).mono ?_
  rintro e w1 ⟨rfl, hx, hb⟩
  rw [hsz] at hx ⊢
  have HX := Aside0.mk (show BX A B l.length cn o.length cm x1 x2 x4 x5 x6 x7 x8 x9 x10 x11 x12 g w1 from blk_below hx0 hb)
  have HRX := Aside0.mk (show RX (g + 1) w1 from hx)
  have HB := Aside0.mk (below_step hb0 hb)
  clear hsz hx0 hb0 hx hb
  rw [hg]
  clear hg
  go_wp2_with fail
  go_loopw [7] (fun i wr => ∃ k : Nat, k ≤ 7 ∧ i = .int .i64 k ∧ Aside0 (∀ j, j < k → sel q0 q1 q2 q3 q4 q5 q6 j = true) ∧ Aside0 (BX A B l.length cn o.length cm x1 x2 x4 x5 x6 x7 x8 x9 x10 x11 x12 g wr) ∧ Aside0 (RX (g + 1) wr) ∧ Aside0 (Below w.heap.size w wr)) (fun i _ => 7 - (intOf i).toNat)
  case atStart => exact ⟨0, by omega, rfl, ⟨fun j hj => absurd hj (by omega)⟩, HX, HRX, HB⟩
  case round =>
    clear HX HRX HB
    obtain ⟨k, hk, rfl, HP, HX, HRX, HB⟩ := hrel
    have c0 := (blk_cell HX.out 0).trans rfl
    have c1 := (blk_cell HX.out 1).trans rfl
    have c2 := (blk_cell HX.out 2).trans rfl
    have c3 := (blk_cell HX.out 3).trans rfl
    have c4 := (blk_cell HX.out 4).trans rfl
    have c5 := (blk_cell HX.out 5).trans rfl
    have c6 := (blk_cell HX.out 6).trans rfl
    have c7 := (blk_cell HX.out 7).trans rfl
    have c8 := (blk_cell HX.out 8).trans rfl
    have c9 := (blk_cell HX.out 9).trans rfl
    have c10 := (blk_cell HX.out 10).trans rfl
    have c11 := (blk_cell HX.out 11).trans rfl
    have c12 := (blk_cell HX.out 12).trans rfl
    by_cases hlt : k < 7
    · rcases (show k = 0 ∨ k = 1 ∨ k = 2 ∨ k = 3 ∨ k = 4 ∨ k = 5 ∨ k = 6 by omega) with rfl | rfl | rfl | rfl | rfl | rfl | rfl
      · have d0 := (blk_cell HRX.out 0).trans rfl
        cases q0 with
        | false =>
          go_wp2_with (first | ((with_reducible refine gate_dst (N := 4) rfl ?_); refine box_event ?hg (N := 4) ?hd (cs := #[.nilFunc]) (t := 66) ?hr ?_; (case hd => rfl); (case hg => rfl); (case hr => first | (go_simp; done) | (go_simp; rfl)); intro gb hgb w7 hbox hb7; have cb : w7.cell? ⟨gb, 0, none⟩ = some .nilFunc := (blk_cell hbox 0).trans rfl; have fb : w7.frozen? ⟨gb, 0, none⟩ = false := blk_frozen hbox 0; have hX7 := blk_below HX.out hb7; have e0 := (blk_cell hX7 0).trans rfl; have e1 := (blk_cell hX7 1).trans rfl; have e2 := (blk_cell hX7 2).trans rfl; have e3 := (blk_cell hX7 3).trans rfl; have e4 := (blk_cell hX7 4).trans rfl; have e5 := (blk_cell hX7 5).trans rfl; have e6 := (blk_cell hX7 6).trans rfl; have e7 := (blk_cell hX7 7).trans rfl; have e8 := (blk_cell hX7 8).trans rfl; have e9 := (blk_cell hX7 9).trans rfl; have e10 := (blk_cell hX7 10).trans rfl; have e11 := (blk_cell hX7 11).trans rfl; have e12 := (blk_cell hX7 12).trans rfl; have hne : g ≠ gb := (by (have := blk_lt HX.out; omega)); have hne2 : gb ≠ g := fun e => hne e.symm; have NE := Aside0.mk hne; have NE2 := Aside0.mk (show g + 1 ≠ gb from (by (have := blk_lt HRX.out; omega))); have GB := Aside0.mk (show w.heap.size ≤ gb from (by (have := below_size HB.out; omega))); have HA7 := Aside0.mk (below_step HB.out hb7); have HX7 := Aside0.mk hX7; have HRX7 := Aside0.mk (blk_below HRX.out hb7); clear hX7 hb7 hbox hgb))
          have HA := Aside0.mk (HA7.out.setCell (show w.heap.size ≤ (⟨gb, 0, none⟩ : Addr).block from GB.out) (.func (.func 61) #[] #[]))
          refine (rule1 A B l.length cn o.length cm x1 x2 x4 x5 x6 x7 x8 x9 x10 x11 x12 _).mono ?_
          rintro e w2 ⟨rfl, hb⟩
          rw [H0.out]
          have HB2 := Aside0.mk (below_step HA.out hb)
          clear hb
          go_wp2_with fail
          go_ret
          exact ⟨by simp, HB2.out⟩
        | true =>
          go_wp2_with (first | ((with_reducible refine gate_dst (N := 4) rfl ?_); refine box_event ?hg (N := 4) ?hd (cs := #[.nilFunc]) (t := 66) ?hr ?_; (case hd => rfl); (case hg => rfl); (case hr => first | (go_simp; done) | (go_simp; rfl)); intro gb hgb w7 hbox hb7; have cb : w7.cell? ⟨gb, 0, none⟩ = some .nilFunc := (blk_cell hbox 0).trans rfl; have fb : w7.frozen? ⟨gb, 0, none⟩ = false := blk_frozen hbox 0; have hX7 := blk_below HX.out hb7; have e0 := (blk_cell hX7 0).trans rfl; have e1 := (blk_cell hX7 1).trans rfl; have e2 := (blk_cell hX7 2).trans rfl; have e3 := (blk_cell hX7 3).trans rfl; have e4 := (blk_cell hX7 4).trans rfl; have e5 := (blk_cell hX7 5).trans rfl; have e6 := (blk_cell hX7 6).trans rfl; have e7 := (blk_cell hX7 7).trans rfl; have e8 := (blk_cell hX7 8).trans rfl; have e9 := (blk_cell hX7 9).trans rfl; have e10 := (blk_cell hX7 10).trans rfl; have e11 := (blk_cell hX7 11).trans rfl; have e12 := (blk_cell hX7 12).trans rfl; have hne : g ≠ gb := (by (have := blk_lt HX.out; omega)); have hne2 : gb ≠ g := fun e => hne e.symm; have NE := Aside0.mk hne; have NE2 := Aside0.mk (show g + 1 ≠ gb from (by (have := blk_lt HRX.out; omega))); have GB := Aside0.mk (show w.heap.size ≤ gb from (by (have := below_size HB.out; omega))); have HA7 := Aside0.mk (below_step HB.out hb7); have HX7 := Aside0.mk hX7; have HRX7 := Aside0.mk (blk_below HRX.out hb7); clear hX7 hb7 hbox hgb))
          have HA := Aside0.mk (HA7.out.setCell (show w.heap.size ≤ (⟨gb, 0, none⟩ : Addr).block from GB.out) (.func (.func 61) #[] #[]))
          have hX := blk_far (p := ⟨gb, 0, none⟩) HX7.out NE.out (.func (.func 61) #[] #[])
          have hRX := blk_far (p := ⟨gb, 0, none⟩) HRX7.out NE2.out (.func (.func 61) #[] #[])
          have HX1 := Aside0.mk hX
          have HRX1 := Aside0.mk hRX
          clear hX hRX
          refine (rule1 A B l.length cn o.length cm x1 x2 x4 x5 x6 x7 x8 x9 x10 x11 x12 _).mono ?_
          rintro e w2 ⟨rfl, hb⟩
          rw [H0.out]
          have HB2 := Aside0.mk (below_step HA.out hb)
          have HX2 := Aside0.mk (blk_below HX1.out hb)
          have HRX2 := Aside0.mk (blk_below HRX1.out hb)
          clear hb
          go_wp2_with fail
          go_roundw
          case rel => exact ⟨1, by omega, rfl, ⟨fun j hj => by
            rcases (show j < 0 ∨ j = 0 by omega) with h | rfl
            · exact HP.out j h
            · rfl⟩, HX2, HRX2, HB2⟩
          case measure => simp [intOf]
      · have d0 := (blk_cell HRX.out 1).trans rfl
        have HL := Aside0.mk (show l.length ≤ 8 by
          have h1 := H0.out
          rw [show q0 = true from HP.out 0 (by omega)] at h1
          unfold inV at h1
          simp at h1
          omega)
        cases q1 with
        | false =>
          go_wp2_with (first | ((with_reducible refine gate_dst (N := 4) rfl ?_); refine box_event ?hg (N := 4) ?hd (cs := #[.nilFunc]) (t := 66) ?hr ?_; (case hd => rfl); (case hg => rfl); (case hr => first | (go_simp; done) | (go_simp; rfl)); intro gb hgb w7 hbox hb7; have cb : w7.cell? ⟨gb, 0, none⟩ = some .nilFunc := (blk_cell hbox 0).trans rfl; have fb : w7.frozen? ⟨gb, 0, none⟩ = false := blk_frozen hbox 0; have hX7 := blk_below HX.out hb7; have e0 := (blk_cell hX7 0).trans rfl; have e1 := (blk_cell hX7 1).trans rfl; have e2 := (blk_cell hX7 2).trans rfl; have e3 := (blk_cell hX7 3).trans rfl; have e4 := (blk_cell hX7 4).trans rfl; have e5 := (blk_cell hX7 5).trans rfl; have e6 := (blk_cell hX7 6).trans rfl; have e7 := (blk_cell hX7 7).trans rfl; have e8 := (blk_cell hX7 8).trans rfl; have e9 := (blk_cell hX7 9).trans rfl; have e10 := (blk_cell hX7 10).trans rfl; have e11 := (blk_cell hX7 11).trans rfl; have e12 := (blk_cell hX7 12).trans rfl; have hne : g ≠ gb := (by (have := blk_lt HX.out; omega)); have hne2 : gb ≠ g := fun e => hne e.symm; have NE := Aside0.mk hne; have NE2 := Aside0.mk (show g + 1 ≠ gb from (by (have := blk_lt HRX.out; omega))); have GB := Aside0.mk (show w.heap.size ≤ gb from (by (have := below_size HB.out; omega))); have HA7 := Aside0.mk (below_step HB.out hb7); have HX7 := Aside0.mk hX7; have HRX7 := Aside0.mk (blk_below HRX.out hb7); clear hX7 hb7 hbox hgb))
          have HA := Aside0.mk (HA7.out.setCell (show w.heap.size ≤ (⟨gb, 0, none⟩ : Addr).block from GB.out) (.func (.func 63) #[] #[]))
          refine (rule2 B cn o.length cm x1 x2 x4 x5 x6 x7 x8 x9 x10 x11 x12 _ A l (Kd.C_below HR.out HA.out) (by have := HL.out; omega)).mono ?_
          rintro e w2 ⟨rfl, hb⟩
          rw [H1.out]
          have HB2 := Aside0.mk (below_step HA.out hb)
          clear hb
          go_wp2_with fail
          go_ret
          exact ⟨by simp, HB2.out⟩
        | true =>
          go_wp2_with (first | ((with_reducible refine gate_dst (N := 4) rfl ?_); refine box_event ?hg (N := 4) ?hd (cs := #[.nilFunc]) (t := 66) ?hr ?_; (case hd => rfl); (case hg => rfl); (case hr => first | (go_simp; done) | (go_simp; rfl)); intro gb hgb w7 hbox hb7; have cb : w7.cell? ⟨gb, 0, none⟩ = some .nilFunc := (blk_cell hbox 0).trans rfl; have fb : w7.frozen? ⟨gb, 0, none⟩ = false := blk_frozen hbox 0; have hX7 := blk_below HX.out hb7; have e0 := (blk_cell hX7 0).trans rfl; have e1 := (blk_cell hX7 1).trans rfl; have e2 := (blk_cell hX7 2).trans rfl; have e3 := (blk_cell hX7 3).trans rfl; have e4 := (blk_cell hX7 4).trans rfl; have e5 := (blk_cell hX7 5).trans rfl; have e6 := (blk_cell hX7 6).trans rfl; have e7 := (blk_cell hX7 7).trans rfl; have e8 := (blk_cell hX7 8).trans rfl; have e9 := (blk_cell hX7 9).trans rfl; have e10 := (blk_cell hX7 10).trans rfl; have e11 := (blk_cell hX7 11).trans rfl; have e12 := (blk_cell hX7 12).trans rfl; have hne : g ≠ gb := (by (have := blk_lt HX.out; omega)); have hne2 : gb ≠ g := fun e => hne e.symm; have NE := Aside0.mk hne; have NE2 := Aside0.mk (show g + 1 ≠ gb from (by (have := blk_lt HRX.out; omega))); have GB := Aside0.mk (show w.heap.size ≤ gb from (by (have := below_size HB.out; omega))); have HA7 := Aside0.mk (below_step HB.out hb7); have HX7 := Aside0.mk hX7; have HRX7 := Aside0.mk (blk_below HRX.out hb7); clear hX7 hb7 hbox hgb))
          have HA := Aside0.mk (HA7.out.setCell (show w.heap.size ≤ (⟨gb, 0, none⟩ : Addr).block from GB.out) (.func (.func 63) #[] #[]))
          have hX := blk_far (p := ⟨gb, 0, none⟩) HX7.out NE.out (.func (.func 63) #[] #[])
          have hRX := blk_far (p := ⟨gb, 0, none⟩) HRX7.out NE2.out (.func (.func 63) #[] #[])
          have HX1 := Aside0.mk hX
          have HRX1 := Aside0.mk hRX
          clear hX hRX
          refine (rule2 B cn o.length cm x1 x2 x4 x5 x6 x7 x8 x9 x10 x11 x12 _ A l (Kd.C_below HR.out HA.out) (by have := HL.out; omega)).mono ?_
          rintro e w2 ⟨rfl, hb⟩
          rw [H1.out]
          have HB2 := Aside0.mk (below_step HA.out hb)
          have HX2 := Aside0.mk (blk_below HX1.out hb)
          have HRX2 := Aside0.mk (blk_below HRX1.out hb)
          clear hb
          go_wp2_with fail
          go_roundw
          case rel => exact ⟨2, by omega, rfl, ⟨fun j hj => by
            rcases (show j < 1 ∨ j = 1 by omega) with h | rfl
            · exact HP.out j h
            · rfl⟩, HX2, HRX2, HB2⟩
          case measure => simp [intOf]
      · have d0 := (blk_cell HRX.out 2).trans rfl
        cases q2 with
        | false =>
          go_wp2_with (first | ((with_reducible refine gate_dst (N := 4) rfl ?_); refine box_event ?hg (N := 4) ?hd (cs := #[.nilFunc]) (t := 66) ?hr ?_; (case hd => rfl); (case hg => rfl); (case hr => first | (go_simp; done) | (go_simp; rfl)); intro gb hgb w7 hbox hb7; have cb : w7.cell? ⟨gb, 0, none⟩ = some .nilFunc := (blk_cell hbox 0).trans rfl; have fb : w7.frozen? ⟨gb, 0, none⟩ = false := blk_frozen hbox 0; have hX7 := blk_below HX.out hb7; have e0 := (blk_cell hX7 0).trans rfl; have e1 := (blk_cell hX7 1).trans rfl; have e2 := (blk_cell hX7 2).trans rfl; have e3 := (blk_cell hX7 3).trans rfl; have e4 := (blk_cell hX7 4).trans rfl; have e5 := (blk_cell hX7 5).trans rfl; have e6 := (blk_cell hX7 6).trans rfl; have e7 := (blk_cell hX7 7).trans rfl; have e8 := (blk_cell hX7 8).trans rfl; have e9 := (blk_cell hX7 9).trans rfl; have e10 := (blk_cell hX7 10).trans rfl; have e11 := (blk_cell hX7 11).trans rfl; have e12 := (blk_cell hX7 12).trans rfl; have hne : g ≠ gb := (by (have := blk_lt HX.out; omega)); have hne2 : gb ≠ g := fun e => hne e.symm; have NE := Aside0.mk hne; have NE2 := Aside0.mk (show g + 1 ≠ gb from (by (have := blk_lt HRX.out; omega))); have GB := Aside0.mk (show w.heap.size ≤ gb from (by (have := below_size HB.out; omega))); have HA7 := Aside0.mk (below_step HB.out hb7); have HX7 := Aside0.mk hX7; have HRX7 := Aside0.mk (blk_below HRX.out hb7); clear hX7 hb7 hbox hgb))
          have HA := Aside0.mk (HA7.out.setCell (show w.heap.size ≤ (⟨gb, 0, none⟩ : Addr).block from GB.out) (.func (.func 66) #[] #[]))
          refine (rule3 A B l.length cn o.length cm x1 x2 x4 x5 x6 x7 x8 x9 x10 x11 x12 _).mono ?_
          rintro e w2 ⟨rfl, hb⟩
          rw [H2.out]
          have HB2 := Aside0.mk (below_step HA.out hb)
          clear hb
          go_wp2_with fail
          go_ret
          exact ⟨by simp, HB2.out⟩
        | true =>
          go_wp2_with (first | ((with_reducible refine gate_dst (N := 4) rfl ?_); refine box_event ?hg (N := 4) ?hd (cs := #[.nilFunc]) (t := 66) ?hr ?_; (case hd => rfl); (case hg => rfl); (case hr => first | (go_simp; done) | (go_simp; rfl)); intro gb hgb w7 hbox hb7; have cb : w7.cell? ⟨gb, 0, none⟩ = some .nilFunc := (blk_cell hbox 0).trans rfl; have fb : w7.frozen? ⟨gb, 0, none⟩ = false := blk_frozen hbox 0; have hX7 := blk_below HX.out hb7; have e0 := (blk_cell hX7 0).trans rfl; have e1 := (blk_cell hX7 1).trans rfl; have e2 := (blk_cell hX7 2).trans rfl; have e3 := (blk_cell hX7 3).trans rfl; have e4 := (blk_cell hX7 4).trans rfl; have e5 := (blk_cell hX7 5).trans rfl; have e6 := (blk_cell hX7 6).trans rfl; have e7 := (blk_cell hX7 7).trans rfl; have e8 := (blk_cell hX7 8).trans rfl; have e9 := (blk_cell hX7 9).trans rfl; have e10 := (blk_cell hX7 10).trans rfl; have e11 := (blk_cell hX7 11).trans rfl; have e12 := (blk_cell hX7 12).trans rfl; have hne : g ≠ gb := (by (have := blk_lt HX.out; omega)); have hne2 : gb ≠ g := fun e => hne e.symm; have NE := Aside0.mk hne; have NE2 := Aside0.mk (show g + 1 ≠ gb from (by (have := blk_lt HRX.out; omega))); have GB := Aside0.mk (show w.heap.size ≤ gb from (by (have := below_size HB.out; omega))); have HA7 := Aside0.mk (below_step HB.out hb7); have HX7 := Aside0.mk hX7; have HRX7 := Aside0.mk (blk_below HRX.out hb7); clear hX7 hb7 hbox hgb))
          have HA := Aside0.mk (HA7.out.setCell (show w.heap.size ≤ (⟨gb, 0, none⟩ : Addr).block from GB.out) (.func (.func 66) #[] #[]))
          have hX := blk_far (p := ⟨gb, 0, none⟩) HX7.out NE.out (.func (.func 66) #[] #[])
          have hRX := blk_far (p := ⟨gb, 0, none⟩) HRX7.out NE2.out (.func (.func 66) #[] #[])
          have HX1 := Aside0.mk hX
          have HRX1 := Aside0.mk hRX
          clear hX hRX
          refine (rule3 A B l.length cn o.length cm x1 x2 x4 x5 x6 x7 x8 x9 x10 x11 x12 _).mono ?_
          rintro e w2 ⟨rfl, hb⟩
          rw [H2.out]
          have HB2 := Aside0.mk (below_step HA.out hb)
          have HX2 := Aside0.mk (blk_below HX1.out hb)
          have HRX2 := Aside0.mk (blk_below HRX1.out hb)
          clear hb
          go_wp2_with fail
          go_roundw
          case rel => exact ⟨3, by omega, rfl, ⟨fun j hj => by
            rcases (show j < 2 ∨ j = 2 by omega) with h | rfl
            · exact HP.out j h
            · rfl⟩, HX2, HRX2, HB2⟩
          case measure => simp [intOf]
      · have d0 := (blk_cell HRX.out 3).trans rfl
        cases q3 with
        | false =>
          go_wp2_with (first | ((with_reducible refine gate_dst (N := 4) rfl ?_); refine box_event ?hg (N := 4) ?hd (cs := #[.nilFunc]) (t := 66) ?hr ?_; (case hd => rfl); (case hg => rfl); (case hr => first | (go_simp; done) | (go_simp; rfl)); intro gb hgb w7 hbox hb7; have cb : w7.cell? ⟨gb, 0, none⟩ = some .nilFunc := (blk_cell hbox 0).trans rfl; have fb : w7.frozen? ⟨gb, 0, none⟩ = false := blk_frozen hbox 0; have hX7 := blk_below HX.out hb7; have e0 := (blk_cell hX7 0).trans rfl; have e1 := (blk_cell hX7 1).trans rfl; have e2 := (blk_cell hX7 2).trans rfl; have e3 := (blk_cell hX7 3).trans rfl; have e4 := (blk_cell hX7 4).trans rfl; have e5 := (blk_cell hX7 5).trans rfl; have e6 := (blk_cell hX7 6).trans rfl; have e7 := (blk_cell hX7 7).trans rfl; have e8 := (blk_cell hX7 8).trans rfl; have e9 := (blk_cell hX7 9).trans rfl; have e10 := (blk_cell hX7 10).trans rfl; have e11 := (blk_cell hX7 11).trans rfl; have e12 := (blk_cell hX7 12).trans rfl; have hne : g ≠ gb := (by (have := blk_lt HX.out; omega)); have hne2 : gb ≠ g := fun e => hne e.symm; have NE := Aside0.mk hne; have NE2 := Aside0.mk (show g + 1 ≠ gb from (by (have := blk_lt HRX.out; omega))); have GB := Aside0.mk (show w.heap.size ≤ gb from (by (have := below_size HB.out; omega))); have HA7 := Aside0.mk (below_step HB.out hb7); have HX7 := Aside0.mk hX7; have HRX7 := Aside0.mk (blk_below HRX.out hb7); clear hX7 hb7 hbox hgb))
          have HA := Aside0.mk (HA7.out.setCell (show w.heap.size ≤ (⟨gb, 0, none⟩ : Addr).block from GB.out) (.func (.func 67) #[] #[]))
          refine (rule4 A B l.length cn o.length cm x1 x2 x4 x5 x6 x7 x8 x9 x10 x11 x12 _).mono ?_
          rintro e w2 ⟨rfl, hb⟩
          rw [H3.out]
          have HB2 := Aside0.mk (below_step HA.out hb)
          clear hb
          go_wp2_with fail
          go_ret
          exact ⟨by simp, HB2.out⟩
        | true =>
          go_wp2_with (first | ((with_reducible refine gate_dst (N := 4) rfl ?_); refine box_event ?hg (N := 4) ?hd (cs := #[.nilFunc]) (t := 66) ?hr ?_; (case hd => rfl); (case hg => rfl); (case hr => first | (go_simp; done) | (go_simp; rfl)); intro gb hgb w7 hbox hb7; have cb : w7.cell? ⟨gb, 0, none⟩ = some .nilFunc := (blk_cell hbox 0).trans rfl; have fb : w7.frozen? ⟨gb, 0, none⟩ = false := blk_frozen hbox 0; have hX7 := blk_below HX.out hb7; have e0 := (blk_cell hX7 0).trans rfl; have e1 := (blk_cell hX7 1).trans rfl; have e2 := (blk_cell hX7 2).trans rfl; have e3 := (blk_cell hX7 3).trans rfl; have e4 := (blk_cell hX7 4).trans rfl; have e5 := (blk_cell hX7 5).trans rfl; have e6 := (blk_cell hX7 6).trans rfl; have e7 := (blk_cell hX7 7).trans rfl; have e8 := (blk_cell hX7 8).trans rfl; have e9 := (blk_cell hX7 9).trans rfl; have e10 := (blk_cell hX7 10).trans rfl; have e11 := (blk_cell hX7 11).trans rfl; have e12 := (blk_cell hX7 12).trans rfl; have hne : g ≠ gb := (by (have := blk_lt HX.out; omega)); have hne2 : gb ≠ g := fun e => hne e.symm; have NE := Aside0.mk hne; have NE2 := Aside0.mk (show g + 1 ≠ gb from (by (have := blk_lt HRX.out; omega))); have GB := Aside0.mk (show w.heap.size ≤ gb from (by (have := below_size HB.out; omega))); have HA7 := Aside0.mk (below_step HB.out hb7); have HX7 := Aside0.mk hX7; have HRX7 := Aside0.mk (blk_below HRX.out hb7); clear hX7 hb7 hbox hgb))
          have HA := Aside0.mk (HA7.out.setCell (show w.heap.size ≤ (⟨gb, 0, none⟩ : Addr).block from GB.out) (.func (.func 67) #[] #[]))
          have hX := blk_far (p := ⟨gb, 0, none⟩) HX7.out NE.out (.func (.func 67) #[] #[])
          have hRX := blk_far (p := ⟨gb, 0, none⟩) HRX7.out NE2.out (.func (.func 67) #[] #[])
          have HX1 := Aside0.mk hX
          have HRX1 := Aside0.mk hRX
          clear hX hRX
          refine (rule4 A B l.length cn o.length cm x1 x2 x4 x5 x6 x7 x8 x9 x10 x11 x12 _).mono ?_
          rintro e w2 ⟨rfl, hb⟩
          rw [H3.out]
          have HB2 := Aside0.mk (below_step HA.out hb)
          have HX2 := Aside0.mk (blk_below HX1.out hb)
          have HRX2 := Aside0.mk (blk_below HRX1.out hb)
          clear hb
          go_wp2_with fail
          go_roundw
          case rel => exact ⟨4, by omega, rfl, ⟨fun j hj => by
            rcases (show j < 3 ∨ j = 3 by omega) with h | rfl
            · exact HP.out j h
            · rfl⟩, HX2, HRX2, HB2⟩
          case measure => simp [intOf]
      · have d0 := (blk_cell HRX.out 4).trans rfl
        cases q4 with
        | false =>
          go_wp2_with (first | ((with_reducible refine gate_dst (N := 4) rfl ?_); refine box_event ?hg (N := 4) ?hd (cs := #[.nilFunc]) (t := 66) ?hr ?_; (case hd => rfl); (case hg => rfl); (case hr => first | (go_simp; done) | (go_simp; rfl)); intro gb hgb w7 hbox hb7; have cb : w7.cell? ⟨gb, 0, none⟩ = some .nilFunc := (blk_cell hbox 0).trans rfl; have fb : w7.frozen? ⟨gb, 0, none⟩ = false := blk_frozen hbox 0; have hX7 := blk_below HX.out hb7; have e0 := (blk_cell hX7 0).trans rfl; have e1 := (blk_cell hX7 1).trans rfl; have e2 := (blk_cell hX7 2).trans rfl; have e3 := (blk_cell hX7 3).trans rfl; have e4 := (blk_cell hX7 4).trans rfl; have e5 := (blk_cell hX7 5).trans rfl; have e6 := (blk_cell hX7 6).trans rfl; have e7 := (blk_cell hX7 7).trans rfl; have e8 := (blk_cell hX7 8).trans rfl; have e9 := (blk_cell hX7 9).trans rfl; have e10 := (blk_cell hX7 10).trans rfl; have e11 := (blk_cell hX7 11).trans rfl; have e12 := (blk_cell hX7 12).trans rfl; have hne : g ≠ gb := (by (have := blk_lt HX.out; omega)); have hne2 : gb ≠ g := fun e => hne e.symm; have NE := Aside0.mk hne; have NE2 := Aside0.mk (show g + 1 ≠ gb from (by (have := blk_lt HRX.out; omega))); have GB := Aside0.mk (show w.heap.size ≤ gb from (by (have := below_size HB.out; omega))); have HA7 := Aside0.mk (below_step HB.out hb7); have HX7 := Aside0.mk hX7; have HRX7 := Aside0.mk (blk_below HRX.out hb7); clear hX7 hb7 hbox hgb))
          have HA := Aside0.mk (HA7.out.setCell (show w.heap.size ≤ (⟨gb, 0, none⟩ : Addr).block from GB.out) (.func (.func 68) #[] #[]))
          refine (rule5 B cn o.length cm x1 x2 x4 x5 x6 x7 x8 x9 x10 x11 x12 _ A l.length).mono ?_
          rintro e w2 ⟨rfl, hb⟩
          rw [H4.out]
          have HB2 := Aside0.mk (below_step HA.out hb)
          clear hb
          go_wp2_with fail
          go_ret
          exact ⟨by simp, HB2.out⟩
        | true =>
          go_wp2_with (first | ((with_reducible refine gate_dst (N := 4) rfl ?_); refine box_event ?hg (N := 4) ?hd (cs := #[.nilFunc]) (t := 66) ?hr ?_; (case hd => rfl); (case hg => rfl); (case hr => first | (go_simp; done) | (go_simp; rfl)); intro gb hgb w7 hbox hb7; have cb : w7.cell? ⟨gb, 0, none⟩ = some .nilFunc := (blk_cell hbox 0).trans rfl; have fb : w7.frozen? ⟨gb, 0, none⟩ = false := blk_frozen hbox 0; have hX7 := blk_below HX.out hb7; have e0 := (blk_cell hX7 0).trans rfl; have e1 := (blk_cell hX7 1).trans rfl; have e2 := (blk_cell hX7 2).trans rfl; have e3 := (blk_cell hX7 3).trans rfl; have e4 := (blk_cell hX7 4).trans rfl; have e5 := (blk_cell hX7 5).trans rfl; have e6 := (blk_cell hX7 6).trans rfl; have e7 := (blk_cell hX7 7).trans rfl; have e8 := (blk_cell hX7 8).trans rfl; have e9 := (blk_cell hX7 9).trans rfl; have e10 := (blk_cell hX7 10).trans rfl; have e11 := (blk_cell hX7 11).trans rfl; have e12 := (blk_cell hX7 12).trans rfl; have hne : g ≠ gb := (by (have := blk_lt HX.out; omega)); have hne2 : gb ≠ g := fun e => hne e.symm; have NE := Aside0.mk hne; have NE2 := Aside0.mk (show g + 1 ≠ gb from (by (have := blk_lt HRX.out; omega))); have GB := Aside0.mk (show w.heap.size ≤ gb from (by (have := below_size HB.out; omega))); have HA7 := Aside0.mk (below_step HB.out hb7); have HX7 := Aside0.mk hX7; have HRX7 := Aside0.mk (blk_below HRX.out hb7); clear hX7 hb7 hbox hgb))
          have HA := Aside0.mk (HA7.out.setCell (show w.heap.size ≤ (⟨gb, 0, none⟩ : Addr).block from GB.out) (.func (.func 68) #[] #[]))
          have hX := blk_far (p := ⟨gb, 0, none⟩) HX7.out NE.out (.func (.func 68) #[] #[])
          have hRX := blk_far (p := ⟨gb, 0, none⟩) HRX7.out NE2.out (.func (.func 68) #[] #[])
          have HX1 := Aside0.mk hX
          have HRX1 := Aside0.mk hRX
          clear hX hRX
          refine (rule5 B cn o.length cm x1 x2 x4 x5 x6 x7 x8 x9 x10 x11 x12 _ A l.length).mono ?_
          rintro e w2 ⟨rfl, hb⟩
          rw [H4.out]
          have HB2 := Aside0.mk (below_step HA.out hb)
          have HX2 := Aside0.mk (blk_below HX1.out hb)
          have HRX2 := Aside0.mk (blk_below HRX1.out hb)
          clear hb
          go_wp2_with fail
          go_roundw
          case rel => exact ⟨5, by omega, rfl, ⟨fun j hj => by
            rcases (show j < 4 ∨ j = 4 by omega) with h | rfl
            · exact HP.out j h
            · rfl⟩, HX2, HRX2, HB2⟩
          case measure => simp [intOf]
      · have d0 := (blk_cell HRX.out 5).trans rfl
        cases q5 with
        | false =>
          go_wp2_with (first | ((with_reducible refine gate_dst (N := 4) rfl ?_); refine box_event ?hg (N := 4) ?hd (cs := #[.nilFunc]) (t := 66) ?hr ?_; (case hd => rfl); (case hg => rfl); (case hr => first | (go_simp; done) | (go_simp; rfl)); intro gb hgb w7 hbox hb7; have cb : w7.cell? ⟨gb, 0, none⟩ = some .nilFunc := (blk_cell hbox 0).trans rfl; have fb : w7.frozen? ⟨gb, 0, none⟩ = false := blk_frozen hbox 0; have hX7 := blk_below HX.out hb7; have e0 := (blk_cell hX7 0).trans rfl; have e1 := (blk_cell hX7 1).trans rfl; have e2 := (blk_cell hX7 2).trans rfl; have e3 := (blk_cell hX7 3).trans rfl; have e4 := (blk_cell hX7 4).trans rfl; have e5 := (blk_cell hX7 5).trans rfl; have e6 := (blk_cell hX7 6).trans rfl; have e7 := (blk_cell hX7 7).trans rfl; have e8 := (blk_cell hX7 8).trans rfl; have e9 := (blk_cell hX7 9).trans rfl; have e10 := (blk_cell hX7 10).trans rfl; have e11 := (blk_cell hX7 11).trans rfl; have e12 := (blk_cell hX7 12).trans rfl; have hne : g ≠ gb := (by (have := blk_lt HX.out; omega)); have hne2 : gb ≠ g := fun e => hne e.symm; have NE := Aside0.mk hne; have NE2 := Aside0.mk (show g + 1 ≠ gb from (by (have := blk_lt HRX.out; omega))); have GB := Aside0.mk (show w.heap.size ≤ gb from (by (have := below_size HB.out; omega))); have HA7 := Aside0.mk (below_step HB.out hb7); have HX7 := Aside0.mk hX7; have HRX7 := Aside0.mk (blk_below HRX.out hb7); clear hX7 hb7 hbox hgb))
          have HA := Aside0.mk (HA7.out.setCell (show w.heap.size ≤ (⟨gb, 0, none⟩ : Addr).block from GB.out) (.func (.func 71) #[] #[]))
          refine (rule6 A B l.length cn o.length cm x1 x2 x4 x5 x6 x7 x8 x9 x10 x11 x12 _).mono ?_
          rintro e w2 ⟨rfl, hb⟩
          rw [H5.out]
          have HB2 := Aside0.mk (below_step HA.out hb)
          clear hb
          go_wp2_with fail
          go_ret
          exact ⟨by simp, HB2.out⟩
        | true =>
          go_wp2_with (first | ((with_reducible refine gate_dst (N := 4) rfl ?_); refine box_event ?hg (N := 4) ?hd (cs := #[.nilFunc]) (t := 66) ?hr ?_; (case hd => rfl); (case hg => rfl); (case hr => first | (go_simp; done) | (go_simp; rfl)); intro gb hgb w7 hbox hb7; have cb : w7.cell? ⟨gb, 0, none⟩ = some .nilFunc := (blk_cell hbox 0).trans rfl; have fb : w7.frozen? ⟨gb, 0, none⟩ = false := blk_frozen hbox 0; have hX7 := blk_below HX.out hb7; have e0 := (blk_cell hX7 0).trans rfl; have e1 := (blk_cell hX7 1).trans rfl; have e2 := (blk_cell hX7 2).trans rfl; have e3 := (blk_cell hX7 3).trans rfl; have e4 := (blk_cell hX7 4).trans rfl; have e5 := (blk_cell hX7 5).trans rfl; have e6 := (blk_cell hX7 6).trans rfl; have e7 := (blk_cell hX7 7).trans rfl; have e8 := (blk_cell hX7 8).trans rfl; have e9 := (blk_cell hX7 9).trans rfl; have e10 := (blk_cell hX7 10).trans rfl; have e11 := (blk_cell hX7 11).trans rfl; have e12 := (blk_cell hX7 12).trans rfl; have hne : g ≠ gb := (by (have := blk_lt HX.out; omega)); have hne2 : gb ≠ g := fun e => hne e.symm; have NE := Aside0.mk hne; have NE2 := Aside0.mk (show g + 1 ≠ gb from (by (have := blk_lt HRX.out; omega))); have GB := Aside0.mk (show w.heap.size ≤ gb from (by (have := below_size HB.out; omega))); have HA7 := Aside0.mk (below_step HB.out hb7); have HX7 := Aside0.mk hX7; have HRX7 := Aside0.mk (blk_below HRX.out hb7); clear hX7 hb7 hbox hgb))
          have HA := Aside0.mk (HA7.out.setCell (show w.heap.size ≤ (⟨gb, 0, none⟩ : Addr).block from GB.out) (.func (.func 71) #[] #[]))
          have hX := blk_far (p := ⟨gb, 0, none⟩) HX7.out NE.out (.func (.func 71) #[] #[])
          have hRX := blk_far (p := ⟨gb, 0, none⟩) HRX7.out NE2.out (.func (.func 71) #[] #[])
          have HX1 := Aside0.mk hX
          have HRX1 := Aside0.mk hRX
          clear hX hRX
          refine (rule6 A B l.length cn o.length cm x1 x2 x4 x5 x6 x7 x8 x9 x10 x11 x12 _).mono ?_
          rintro e w2 ⟨rfl, hb⟩
          rw [H5.out]
          have HB2 := Aside0.mk (below_step HA.out hb)
          have HX2 := Aside0.mk (blk_below HX1.out hb)
          have HRX2 := Aside0.mk (blk_below HRX1.out hb)
          clear hb
          go_wp2_with fail
          go_roundw
          case rel => exact ⟨6, by omega, rfl, ⟨fun j hj => by
            rcases (show j < 5 ∨ j = 5 by omega) with h | rfl
            · exact HP.out j h
            · rfl⟩, HX2, HRX2, HB2⟩
          case measure => simp [intOf]
      · have d0 := (blk_cell HRX.out 6).trans rfl
        have HL := Aside0.mk (show l.length ≤ 8 by
          have h1 := H0.out
          rw [show q0 = true from HP.out 0 (by omega)] at h1
          unfold inV at h1
          simp at h1
          omega)
        cases q6 with
        | false =>
          go_wp2_with (first | ((with_reducible refine gate_dst (N := 4) rfl ?_); refine box_event ?hg (N := 4) ?hd (cs := #[.nilFunc]) (t := 66) ?hr ?_; (case hd => rfl); (case hg => rfl); (case hr => first | (go_simp; done) | (go_simp; rfl)); intro gb hgb w7 hbox hb7; have cb : w7.cell? ⟨gb, 0, none⟩ = some .nilFunc := (blk_cell hbox 0).trans rfl; have fb : w7.frozen? ⟨gb, 0, none⟩ = false := blk_frozen hbox 0; have hX7 := blk_below HX.out hb7; have e0 := (blk_cell hX7 0).trans rfl; have e1 := (blk_cell hX7 1).trans rfl; have e2 := (blk_cell hX7 2).trans rfl; have e3 := (blk_cell hX7 3).trans rfl; have e4 := (blk_cell hX7 4).trans rfl; have e5 := (blk_cell hX7 5).trans rfl; have e6 := (blk_cell hX7 6).trans rfl; have e7 := (blk_cell hX7 7).trans rfl; have e8 := (blk_cell hX7 8).trans rfl; have e9 := (blk_cell hX7 9).trans rfl; have e10 := (blk_cell hX7 10).trans rfl; have e11 := (blk_cell hX7 11).trans rfl; have e12 := (blk_cell hX7 12).trans rfl; have hne : g ≠ gb := (by (have := blk_lt HX.out; omega)); have hne2 : gb ≠ g := fun e => hne e.symm; have NE := Aside0.mk hne; have NE2 := Aside0.mk (show g + 1 ≠ gb from (by (have := blk_lt HRX.out; omega))); have GB := Aside0.mk (show w.heap.size ≤ gb from (by (have := below_size HB.out; omega))); have HA7 := Aside0.mk (below_step HB.out hb7); have HX7 := Aside0.mk hX7; have HRX7 := Aside0.mk (blk_below HRX.out hb7); clear hX7 hb7 hbox hgb))
          have HA := Aside0.mk (HA7.out.setCell (show w.heap.size ≤ (⟨gb, 0, none⟩ : Addr).block from GB.out) (.func (.func 72) #[] #[]))
          refine (ordered_any cn cm x1 x2 x4 x5 x6 x7 x8 x9 x10 x11 x12 _ A B l o (Kd.C_below HR.out HA.out) HC.out (Kd.C_below HO.out HA.out) HCM.out (by have := HL.out; omega) hol).mono ?_
          rintro e w2 ⟨rfl, hb⟩
          rw [H6.out]
          have HB2 := Aside0.mk (below_step HA.out hb)
          clear hb
          go_wp2_with fail
          go_ret
          exact ⟨by simp, HB2.out⟩
        | true =>
          go_wp2_with (first | ((with_reducible refine gate_dst (N := 4) rfl ?_); refine box_event ?hg (N := 4) ?hd (cs := #[.nilFunc]) (t := 66) ?hr ?_; (case hd => rfl); (case hg => rfl); (case hr => first | (go_simp; done) | (go_simp; rfl)); intro gb hgb w7 hbox hb7; have cb : w7.cell? ⟨gb, 0, none⟩ = some .nilFunc := (blk_cell hbox 0).trans rfl; have fb : w7.frozen? ⟨gb, 0, none⟩ = false := blk_frozen hbox 0; have hX7 := blk_below HX.out hb7; have e0 := (blk_cell hX7 0).trans rfl; have e1 := (blk_cell hX7 1).trans rfl; have e2 := (blk_cell hX7 2).trans rfl; have e3 := (blk_cell hX7 3).trans rfl; have e4 := (blk_cell hX7 4).trans rfl; have e5 := (blk_cell hX7 5).trans rfl; have e6 := (blk_cell hX7 6).trans rfl; have e7 := (blk_cell hX7 7).trans rfl; have e8 := (blk_cell hX7 8).trans rfl; have e9 := (blk_cell hX7 9).trans rfl; have e10 := (blk_cell hX7 10).trans rfl; have e11 := (blk_cell hX7 11).trans rfl; have e12 := (blk_cell hX7 12).trans rfl; have hne : g ≠ gb := (by (have := blk_lt HX.out; omega)); have hne2 : gb ≠ g := fun e => hne e.symm; have NE := Aside0.mk hne; have NE2 := Aside0.mk (show g + 1 ≠ gb from (by (have := blk_lt HRX.out; omega))); have GB := Aside0.mk (show w.heap.size ≤ gb from (by (have := below_size HB.out; omega))); have HA7 := Aside0.mk (below_step HB.out hb7); have HX7 := Aside0.mk hX7; have HRX7 := Aside0.mk (blk_below HRX.out hb7); clear hX7 hb7 hbox hgb))
          have HA := Aside0.mk (HA7.out.setCell (show w.heap.size ≤ (⟨gb, 0, none⟩ : Addr).block from GB.out) (.func (.func 72) #[] #[]))
          have hX := blk_far (p := ⟨gb, 0, none⟩) HX7.out NE.out (.func (.func 72) #[] #[])
          have hRX := blk_far (p := ⟨gb, 0, none⟩) HRX7.out NE2.out (.func (.func 72) #[] #[])
          have HX1 := Aside0.mk hX
          have HRX1 := Aside0.mk hRX
          clear hX hRX
          refine (ordered_any cn cm x1 x2 x4 x5 x6 x7 x8 x9 x10 x11 x12 _ A B l o (Kd.C_below HR.out HA.out) HC.out (Kd.C_below HO.out HA.out) HCM.out (by have := HL.out; omega) hol).mono ?_
          rintro e w2 ⟨rfl, hb⟩
          rw [H6.out]
          have HB2 := Aside0.mk (below_step HA.out hb)
          have HX2 := Aside0.mk (blk_below HX1.out hb)
          have HRX2 := Aside0.mk (blk_below HRX1.out hb)
          clear hb
          go_wp2_with fail
          go_roundw
          case rel => exact ⟨7, by omega, rfl, ⟨fun j hj => by
            rcases (show j < 6 ∨ j = 6 by omega) with h | rfl
            · exact HP.out j h
            · rfl⟩, HX2, HRX2, HB2⟩
          case measure => simp [intOf]
    · obtain rfl : k = 7 := by omega
      have e0 : q0 = true := HP.out 0 (by omega)
      have e1 : q1 = true := HP.out 1 (by omega)
      have e2 : q2 = true := HP.out 2 (by omega)
      have e3 : q3 = true := HP.out 3 (by omega)
      have e4 : q4 = true := HP.out 4 (by omega)
      have e5 : q5 = true := HP.out 5 (by omega)
      have e6 : q6 = true := HP.out 6 (by omega)
      subst e0 e1 e2 e3 e4 e5 e6
      go_wp2_with fail
      go_ret
      exact ⟨rfl, HB.out⟩
theorem conf_Check.calls (A0_0 : Option Addr) (c0_0 : Nat) (l0_0 : List S38) (a0_1 : Int) (a0_2 : Int) (A0_3 : Option Addr) (c0_3 : Nat) (l0_3 : List Int) (a0_4 : Int) (a0_5 : Int) (a0_6 : Int) (a0_7 : Int) (a0_8 : Int) (a0_9 : Int) (a0_10 : Int) (a0_11 : Int) (a0_12 : Int) (r : Bool) (w : World) (hr0_0 : Kd.C k38 w A0_0 l0_0.length l0_0) (hc0_0 : l0_0.length ≤ c0_0) (hr0_3 : Kd.C (Kd.int .i64) w A0_3 l0_3.length l0_3) (hc0_3 : l0_3.length ≤ c0_3) (h : conf_Check.f l0_0 a0_1 a0_2 l0_3 a0_4 a0_5 a0_6 a0_7 a0_8 a0_9 a0_10 a0_11 a0_12 = some r) :
    Calls Try.prog 19 #[.agg #[.slice A0_0 l0_0.length c0_0, .int .i64 a0_1, .int .i64 a0_2, .slice A0_3 l0_3.length c0_3, .int .i64 a0_4, .int .i64 a0_5, .int .i64 a0_6, .int .i64 a0_7, .int .i64 a0_8, .int .i64 a0_9, .int .i64 a0_10, .int .i64 a0_11, .int .i64 a0_12]] w fun e w' => e = .returned (.bool r) ∧ Below w.heap.size w w' := by
  unfold conf_Check.f at h
  by_cases hl : l0_3.length ≤ maxLen
  · rw [if_pos hl] at h
    obtain rfl := Option.some.inj h
    exact check_any A0_0 A0_3 c0_0 c0_3 a0_1 a0_2 a0_4 a0_5 a0_6 a0_7 a0_8 a0_9 a0_10 a0_11 a0_12 w l0_0 l0_3 hr0_0 hc0_0 hr0_3 hc0_3 hl
  · rw [if_neg hl] at h; cases h
end Go.Proofs.Ytomaojmccchibaa.X
