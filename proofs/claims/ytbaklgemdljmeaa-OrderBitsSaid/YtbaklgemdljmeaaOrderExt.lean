/- Contracts of order.Next and order.Left (loops over an iterator), in the shape of the printed contracts. -/
import Derived.RangeFuncBox
import Derived.RangeFuncNested
import Derived.RangeFuncLeaves
import Derived.Shelf.Abstract
import Derived.OwnWalkIn
import Derived.TacticsInMore
import Derived.LoopNIn
import Derived.LoopIn
import Derived.Test.YtbaklgemdljmeaaXx0
namespace Go.Proofs.Ytbaklgemdljmeaa.X
open Go.RowKit Go.Shelf Go.Proofs.YtbaklgemdljmeaaW.PrintWords Go.Proofs.YtbaklgemdljmeaaW.PrintLast Go.Proofs.YtbaklgemdljmeaaW.PrintMore
set_option linter.unusedVariables false
set_option linter.unusedSimpArgs false

/-- A car's bit; 0: it has none. -/
def carBit (c : Int) : Int := if c < 0 then 0 else if 64 ≤ c then 0 else 2 ^ c.toNat
def carHas (b c : Int) : Bool := bits .and .u64 b (carBit c) != 0
theorem pow_u64 {c : Int} (h1 : 0 ≤ c) (h2 : c < 64) : IntKind.u64.wrap (2 ^ c.toNat) = 2 ^ c.toNat := by
  have h : (2 : Nat) ^ c.toNat ≤ 2 ^ 63 := Nat.pow_le_pow_right (by omega) (by omega)
  have e : ((2 : Int) ^ c.toNat) = ((2 ^ c.toNat : Nat) : Int) := by simp
  rw [IntKind.wrap_u64, e]
  generalize (2 : Nat) ^ c.toNat = m at h
  simp at h
  omega
theorem bit_any (c : Int) (w : World) : Calls Try.prog 16 #[.int .i64 c] w fun e w' => e = .returned (.int .u64 (carBit c)) ∧ w = w' := by
  rcases (show c < 0 ∨ 64 ≤ c ∨ 0 ≤ c ∧ c < 64 by omega) with h | h | ⟨h1, h2⟩
  · have H := Aside0.mk (show carBit c = 0 by unfold carBit; rw [if_pos h])
    go_enter Try.func16, Try.ntmps16
    go_wp2
    go_ret
    exact ⟨by rw [H.out]; rfl, rfl⟩
  · have H := Aside0.mk (show carBit c = 0 by unfold carBit; rw [if_neg (by omega), if_pos h])
    go_enter Try.func16, Try.ntmps16
    go_wp2
    go_ret
    exact ⟨by rw [H.out]; rfl, rfl⟩
  · have H := Aside0.mk (show carBit c = IntKind.u64.wrap (2 ^ c.toNat) by unfold carBit; rw [if_neg (by omega), if_neg (by omega), pow_u64 h1 h2])
    go_enter Try.func16, Try.ntmps16
    go_wp2
    go_ret
    exact ⟨by rw [H.out]; rfl, rfl⟩
theorem has_any (b c : Int) (w : World) : Calls Try.prog 8 #[.int .u64 b, .int .i64 c] w fun e w' => e = .returned (.bool (carHas b c)) ∧ w = w' := by
  go_enter Try.func8, Try.ntmps8
  go_wp2_with (go_at_call 16; refine (bit_any _ _).mono ?_; rintro e w' ⟨rfl, rfl⟩)
  go_ret
  exact ⟨rfl, rfl⟩

/-- Does a car come, of an order, by two bits? -/
def comes (done out c : Int) : Bool := (carBit c != 0) && !carHas (bits .or .u64 done out) c
attribute [local go_sem] Oper.semAt_some
/-- What a round of the loop keeps. -/
def LKp (n₀ Bd Bo : Nat) (A B : World) : Prop := Below n₀ A B ∧ B.cell? ⟨Bd, 0, none⟩ = A.cell? ⟨Bd, 0, none⟩ ∧ B.cell? ⟨Bo, 0, none⟩ = A.cell? ⟨Bo, 0, none⟩
theorem LKp.refl (n₀ Bd Bo : Nat) (A : World) : LKp n₀ Bd Bo A A := ⟨Below.refl _ _, rfl, rfl⟩
theorem LKp.trans {n₀ Bd Bo : Nat} {A B C : World} (h : LKp n₀ Bd Bo A B) (k : LKp n₀ Bd Bo B C) : LKp n₀ Bd Bo A C := ⟨h.1.trans k.1, k.2.1.trans h.2.1, k.2.2.trans h.2.2⟩
abbrev FW : Fence := Fence.wide

set_option maxRecDepth 100000 in
set_option maxHeartbeats 4000000 in
theorem left1_in (n : Nat) (hn : 1 ≤ n) (l Bs Bd Bo n₀ b off len cap : Nat) (done out : Int) (zs : List Int) (hlen : len ≤ 9223372036854775807) (hzl : zs.length = len) (hb : b < n₀) (J Jx : List Int → World → Prop)
    (hY : ∀ pre x W, J pre W → pre.length < len → YieldAt FW (n - 1) Try.prog l #[.int .i64 x] W fun e W' =>
      (e = .returned (.bool true) ∧ J (pre ++ [x]) W' ∧ LKp n₀ Bd Bo W W') ∨ (e = .returned (.bool false) ∧ Jx (pre ++ [x]) W'))
    (W : World) (hBs : W.cell? ⟨Bs, 0, none⟩ = some (.slice (some ⟨b, off, none⟩) len cap)) (hBd : W.cell? ⟨Bd, 0, none⟩ = some (.int .u64 done)) (hBo : W.cell? ⟨Bo, 0, none⟩ = some (.int .u64 out))
    (hc : ∀ j, j < len → W.cell? ⟨b, off + j, none⟩ = some (.int .i64 (zs[j]?.getD 0))) (h0 : J [] W) :
    CallsIn FW n Try.prog 18 #[.func (.yield l) #[] #[], .pointer (some ⟨Bs, 0, none⟩), .pointer (some ⟨Bd, 0, none⟩), .pointer (some ⟨Bo, 0, none⟩)] W fun e W' => (∃ v, e = .returned v) ∧
      ((∃ ys, ys = zs.filter (comes done out) ∧ J ys W') ∨ (∃ pre, (∃ k, k < len ∧ comes done out (zs[k]?.getD 0) = true ∧ pre = (zs.take k).filter (comes done out) ++ [zs[k]?.getD 0]) ∧ Jx pre W')) := by
  have f16 : FW.fn 16 := trivial
  have f8 : FW.fn 8 := trivial
  refine callsIn_of_wp Try.func18 rfl trivial ?_ rfl
  simp only [Try.ntmps18, List.size_toArray, List.length_cons, List.length_nil, Nat.reduceAdd, Nat.reduceSub, Array.replicate_succ, Array.replicate_zero, List.push_toArray, List.append_toArray, List.nil_append, List.cons_append]
  gi_wp2
  gi_loopw [6, 9] (fun _ i wr => ∃ k : Nat, k ≤ len ∧ i = .int .i64 k ∧ J ((zs.take k).filter (comes done out)) wr ∧ LKp n₀ Bd Bo W wr)
    (fun _ i _ => len - (intOf i).toNat)
  case atStart => exact ⟨0, Nat.zero_le _, rfl, by simpa using h0, LKp.refl _ _ _ _⟩
  case round =>
    obtain ⟨k, hk, rfl, hJs, hnx⟩ := hrel
    have hcd : wr.cell? ⟨Bd, 0, none⟩ = some (.int .u64 done) := hnx.2.1.trans hBd
    have hco : wr.cell? ⟨Bo, 0, none⟩ = some (.int .u64 out) := hnx.2.2.trans hBo
    have hcx : k < len → wr.cell? ⟨b, off + k, none⟩ = some (.int .i64 (zs[k]?.getD 0)) := fun h => (hnx.1.cell (p := ⟨b, off + k, none⟩) hb).trans (hc k h)
    have HN := Aside0.mk hnx
    have HJ := Aside0.mk hJs
    clear hnx hJs hBs hBd hBo hc h0
    by_cases hlt : k < len
    · have hcx' := hcx hlt
      clear hcx
      have etake : zs.take (k + 1) = zs.take k ++ [zs[k]?.getD 0] := by
        rw [List.take_succ_eq_append_getElem (by omega), List.getElem?_eq_getElem (by omega)]; rfl
      have ET := Aside0.mk etake
      clear etake
      obtain ⟨x, hx⟩ : ∃ x, zs[k]?.getD 0 = x := ⟨_, rfl⟩
      have HX := Aside0.mk hx
      rw [hx] at hcx'
      clear hx
      by_cases h1 : (carBit x != 0) = true
      · by_cases h2 : carHas (bits .or .u64 done out) x = true
        · gi_wp2_with (first | (gi_at_call 16; refine (callsIn_wide.2 (bit_any _ _)).mono ?_; rintro e w' ⟨rfl, rfl⟩) | (gi_at_call 8; refine (callsIn_wide.2 (has_any _ _ _)).mono ?_; rintro e w' ⟨rfl, rfl⟩))
          refine ⟨fun _ h => (by cases h), ?_⟩
          gi_wp2
          go_roundw
          case rel => exact ⟨k + 1, by omega, by simp, by rw [ET.out, List.filter_append, HX.out]; simpa [comes, h1, h2] using HJ.out, HN.out⟩
          case measure => simp [intOf]; omega
        · have h2' : carHas (bits .or .u64 done out) x = false := by simpa using h2
          have hcm : comes done out x = true := by unfold comes; rw [h1, h2']; rfl
          have HC := Aside0.mk hcm
          clear hcm h2
          obtain ⟨fn, tmps, assign, body, hy, hR⟩ := hY _ x wr HJ.out (by have h := List.length_filter_le (comes done out) (zs.take k); simp only [List.length_take] at h; omega)
          gi_wp2_with (first | (gi_at_call 16; refine (callsIn_wide.2 (bit_any _ _)).mono ?_; rintro e w' ⟨rfl, rfl⟩) | (gi_at_call 8; refine (callsIn_wide.2 (has_any _ _ _)).mono ?_; rintro e w' ⟨rfl, rfl⟩))
          refine hR.mono ?_
          rintro e W3 (⟨rfl, hJ3, hk3⟩ | ⟨rfl, hJx3⟩)
          · have HK3 := Aside0.mk (HN.out.trans hk3)
            have HJ3 := Aside0.mk hJ3
            clear hk3 hJ3
            gi_wp2
            go_roundw
            case rel => exact ⟨k + 1, by omega, by simp, by rw [ET.out, List.filter_append, HX.out]; simpa [HC.out] using HJ3.out, HK3.out⟩
            case measure => simp [intOf]; omega
          · have HJ3 := Aside0.mk hJx3
            clear hJx3
            gi_wp2
            refine bodyPost_ret (results_none rfl _ _ _) rfl ?_
            exact ⟨⟨_, rfl⟩, .inr ⟨_, ⟨k, hlt, by rw [HX.out]; exact HC.out, rfl⟩, by rw [HX.out]; exact HJ3.out⟩⟩
      · have h1' : (carBit x != 0) = false := by simpa using h1
        clear h1
        gi_wp2_with (first | (gi_at_call 16; refine (callsIn_wide.2 (bit_any _ _)).mono ?_; rintro e w' ⟨rfl, rfl⟩) | (gi_at_call 8; refine (callsIn_wide.2 (has_any _ _ _)).mono ?_; rintro e w' ⟨rfl, rfl⟩))
        try refine ⟨fun _ h => (by cases h), ?_⟩
        gi_wp2
        go_roundw
        case rel => exact ⟨k + 1, by omega, by simp, by rw [ET.out, List.filter_append, HX.out]; simpa [comes, h1'] using HJ.out, HN.out⟩
        case measure => simp [intOf]; omega
    · obtain rfl : k = len := by omega
      gi_wp2
      go_end0
      exact ⟨⟨_, rfl⟩, .inl ⟨_, rfl, by have h := HJ.out; rwa [List.take_of_length_le (by omega)] at h⟩⟩

set_option maxRecDepth 100000 in
set_option maxHeartbeats 1000000 in
theorem left1_empty_in (n : Nat) (l Bs Bd Bo cap : Nat) (A : Option Addr) (J : List Int → World → Prop) (W : World) (hBs : W.cell? ⟨Bs, 0, none⟩ = some (.slice A 0 cap)) (h0 : J [] W) :
    CallsIn FW n Try.prog 18 #[.func (.yield l) #[] #[], .pointer (some ⟨Bs, 0, none⟩), .pointer (some ⟨Bd, 0, none⟩), .pointer (some ⟨Bo, 0, none⟩)] W fun e W' => (∃ v, e = .returned v) ∧ J [] W' := by
  have HJ := Aside0.mk h0
  clear h0
  refine callsIn_of_wp Try.func18 rfl trivial ?_ rfl
  simp only [Try.ntmps18, List.size_toArray, List.length_cons, List.length_nil, Nat.reduceAdd, Nat.reduceSub, Array.replicate_succ, Array.replicate_zero, List.push_toArray, List.append_toArray, List.nil_append, List.cons_append]
  gi_wp2
  gi_loopw [9] (fun i wr => i = .int .i64 0 ∧ J [] wr) (fun _ _ => 0)
  case atStart => exact ⟨rfl, HJ.out⟩
  case round =>
    obtain ⟨rfl, hJs⟩ := hrel
    gi_wp2
    go_end0
    exact ⟨⟨_, rfl⟩, hJs⟩

/-- What a row of whole numbers that is read is: empty, or cells of one block. -/
theorem ints_of {w : World} {A : Option Addr} {zs : List Int} (h : Kd.C (Kd.int .i64) w A zs.length zs) :
    zs = [] ∨ ∃ b off, A = some ⟨b, off, none⟩ ∧ b < w.heap.size ∧ ∀ j, j < zs.length → w.cell? ⟨b, off + j, none⟩ = some (.int .i64 (zs[j]?.getD 0)) := by
  by_cases hz : zs = []
  · exact .inl hz
  · have hl : 0 < zs.length := List.length_pos_iff.2 hz
    obtain ⟨ad, rfl, hc⟩ := h.2.2 hl
    have cell : ∀ j, j < zs.length → w.cell? (ad.add j) = some (.int .i64 (zs[j]?.getD 0)) := by
      intro j hj
      obtain ⟨c, hcl, hK, hcell⟩ := hc j _ (List.getElem?_eq_getElem hj)
      have hK : c = [Value.int .i64 zs[j]] := hK
      subst hK
      have := hcell 0 _ rfl
      simpa [Kd.int, Kd.scalar, List.getElem?_eq_getElem hj] using this
    have hs : ad.spot = none := by
      have h0 := cell 0 hl
      simp only [Addr.add, if_true] at h0
      unfold World.cell? at h0
      split at h0
      · cases hsp : ad.spot with
        | none => rfl
        | some x => rw [hsp] at h0; simp at h0
      · cases h0
    obtain ⟨b, off, sp⟩ := ad
    obtain rfl : sp = none := hs
    refine .inr ⟨b, off, rfl, World.block_lt_of_cell? w _ (cell 0 hl), fun j hj => ?_⟩
    have := cell j hj
    unfold Addr.add at this
    split at this
    · rename_i e; subst e; simpa using this
    · simpa using this

theorem left_stops (n : Nat) (hn : 1 ≤ n) (Bs Bd Bo n₀ : Nat) (A : Option Addr) (cap : Nat) (done out : Int) (zs : List Int) (hlen : zs.length ≤ 9223372036854775807) (w : World) (hn₀ : n₀ ≤ w.heap.size) (hls : Bs < w.heap.size) (hld : Bd < w.heap.size) (hlo : Bo < w.heap.size)
    (hs : w.cell? ⟨Bs, 0, none⟩ = some (.slice A zs.length cap)) (hd : w.cell? ⟨Bd, 0, none⟩ = some (.int .u64 done)) (ho : w.cell? ⟨Bo, 0, none⟩ = some (.int .u64 out))
    (hI : zs = [] ∨ ∃ b off, A = some ⟨b, off, none⟩ ∧ b < n₀ ∧ ∀ j, j < zs.length → w.cell? ⟨b, off + j, none⟩ = some (.int .i64 (zs[j]?.getD 0))) :
    SeqStopsK FW n Try.prog 18 #[.pointer (some ⟨Bs, 0, none⟩), .pointer (some ⟨Bd, 0, none⟩), .pointer (some ⟨Bo, 0, none⟩)] (fun x : Int => #[Value.int .i64 x]) (LKp n₀ Bd Bo) (fun ys => ys = zs.filter (comes done out))
      (fun pre => ∃ k, k < zs.length ∧ comes done out (zs[k]?.getD 0) = true ∧ pre = (zs.take k).filter (comes done out) ++ [zs[k]?.getD 0]) zs.length w := fun l J Jx W hW _ _ hY h0 => by
  have hs' := (hW.cell (p := ⟨Bs, 0, none⟩) hls).trans hs
  have hd' := (hW.cell (p := ⟨Bd, 0, none⟩) hld).trans hd
  have ho' := (hW.cell (p := ⟨Bo, 0, none⟩) hlo).trans ho
  rcases hI with rfl | ⟨b, off, rfl, hb, hc⟩
  · exact (left1_empty_in n l Bs Bd Bo cap A J W hs' h0).mono fun e W' ⟨he, hj⟩ => ⟨he, .inl ⟨_, rfl, hj⟩⟩
  · exact left1_in n hn l Bs Bd Bo n₀ b off zs.length cap done out zs hlen rfl hb J Jx hY W hs' hd' ho' (fun j hj => (hW.cell (p := ⟨b, off + j, none⟩) (Nat.lt_of_lt_of_le hb hn₀)).trans (hc j hj)) h0

theorem left_any (a : Option Addr) (len cap : Nat) (done out : Int) (w : World) :
    Calls Try.prog 17 #[.slice a len cap, .int .u64 done, .int .u64 out] w fun e w' => e = .returned (.func (.func 18) #[] #[.pointer (some ⟨w.heap.size, 0, none⟩), .pointer (some ⟨w.heap.size + 1, 0, none⟩), .pointer (some ⟨w.heap.size + 1 + 1, 0, none⟩)]) ∧
      ((w.alloc (.cells #[.slice a len cap] 22)).alloc (.cells #[.int .u64 done] 23)).alloc (.cells #[.int .u64 out] 23) = w' := by
  go_enter Try.func17, Try.ntmps17
  go_wp2
  go_ret
  exact ⟨rfl, rfl⟩
theorem LKp.book {n₀ Bd Bo : Nat} {w : World} (hn : n₀ ≤ w.heap.size) (hd : Bd < w.heap.size) (ho : Bo < w.heap.size) (W : World) (l : Nat) (o o' : Obj) (hl : w.heap.size ≤ l) (h : W.heap[l]? = some o) (h1 : o.isCells = false) (h2 : o.isWalk = false) : LKp n₀ Bd Bo W (W.putObj l o') := by
  have hb := belowK_b (w := w) (Nat.le_refl _) W l o o' hl h h1 h2
  exact ⟨belowK_b hn W l o o' hl h h1 h2, hb.cell (p := ⟨Bd, 0, none⟩) hd, hb.cell (p := ⟨Bo, 0, none⟩) ho⟩
theorem LKp.store {n₀ Bd Bo : Nat} (W : World) {b : Nat} (hb : n₀ ≤ b) (hd : Bd ≠ b) (ho : Bo ≠ b) (v : Value) : LKp n₀ Bd Bo W (W.setCell ⟨b, 0, none⟩ v) :=
  ⟨(Below.refl _ _).setCell (p := ⟨b, 0, none⟩) hb _, World.cell?_setCell_far _ _ _ _ (Ne.symm hd), World.cell?_setCell_far _ _ _ _ (Ne.symm ho)⟩

/-- The first car of an order that comes; -1: there is none. -/
def nextF (zs : List Int) (done out : Int) : Int := ((zs.filter (comes done out)).head?).getD (-1)
def leftF (zs : List Int) (done out : Int) : Int := ((zs.filter (comes done out)).length : Int)
set_option maxRecDepth 100000 in
set_option maxHeartbeats 4000000 in
theorem left_in (A : Option Addr) (cap : Nat) (zs : List Int) (done out : Int) (w : World) (hr : Kd.C (Kd.int .i64) w A zs.length zs) :
    CallsIn FW 4 Try.prog 11 #[.slice A zs.length cap, .int .u64 done, .int .u64 out] w fun e W' => e = .returned (.int .i64 (leftF zs done out)) ∧ Below w.heap.size w W' := by
  have hI0 := ints_of hr
  have hlen : zs.length ≤ 9223372036854775807 := hr.2.1
  clear hr
  refine callsIn_of_wp_marks Try.func11 rfl trivial ?_ rfl
  simp only [Try.ntmps11, List.size_toArray, List.length_cons, List.length_nil, Nat.reduceAdd, Nat.reduceSub, Array.replicate_succ, Array.replicate_zero, List.push_toArray, List.append_toArray, List.nil_append, List.cons_append]
  have f17 : FW.fn 17 := trivial
  gi_wp2_with (gi_at_call 17; refine (callsIn_wide.2 (left_any _ _ _ _ _ _)).mono ?_; rintro e w' ⟨rfl, rfl⟩)
  have bR := Boxed.new w 3 (.int .i64 0)
  have hB0 : Below w.heap.size w ((((w.alloc (.cells #[.int .i64 0] 3)).alloc (.cells #[.slice A zs.length cap] 22)).alloc (.cells #[.int .u64 done] 23)).alloc (.cells #[.int .u64 out] 23)) := below_alloc (below_alloc (below_alloc (below_alloc (Below.refl _ w) _) _) _) _
  have hI : zs = [] ∨ ∃ b off, A = some ⟨b, off, none⟩ ∧ b < w.heap.size ∧ ∀ j, j < zs.length → ((((w.alloc (.cells #[.int .i64 0] 3)).alloc (.cells #[.slice A zs.length cap] 22)).alloc (.cells #[.int .u64 done] 23)).alloc (.cells #[.int .u64 out] 23)).cell? ⟨b, off + j, none⟩ = some (.int .i64 (zs[j]?.getD 0)) := by
    rcases hI0 with h | ⟨b, off, e, hb, hc⟩
    · exact .inl h
    · exact .inr ⟨b, off, e, hb, fun j hj => pw_cell_below hB0 (hc j hj)⟩
  clear hI0
  refine wpIn_rangeFunc_ownG rfl (by omega) (gf := 18) (lb := #[.pointer (some ⟨w.heap.size + 1, 0, none⟩), .pointer (some ⟨w.heap.size + 1 + 1, 0, none⟩), .pointer (some ⟨w.heap.size + 1 + 1 + 1, 0, none⟩)]) rfl trivial (enters_of Try.func18 (by kernel_rfl) rfl)
    (left_stops 3 (by omega) (w.heap.size + 1) (w.heap.size + 1 + 1) (w.heap.size + 1 + 1 + 1) w.heap.size A cap done out zs hlen _ (by simp; omega) (by simp) (by simp) (by simp) (by go_simp) (by go_simp) (by go_simp) hI)
    LKp.trans (LKp.book (by simp; omega) (by simp) (by simp)) (Below.refl _ _) (fun _ => rfl)
    (fun pre W => (W.cell? ⟨w.heap.size, 0, none⟩ = some (.int .i64 (pre.length : Int)) ∧ W.frozen? ⟨w.heap.size, 0, none⟩ = false) ∧ Below w.heap.size w W)
    (fun _ _ _ => False)
    (OwnFrom.and (Own.from (fun s A B row hs hg hr => ⟨cell_kept hs.1 hg hr, (frozen_kept hs.1 hg hr).trans hs.2⟩) _) (ownFrom_below (Nat.le_refl _) (by simp; omega)))
    (fun _ _ _ _ _ hs _ _ => hs)
    ⟨⟨by go_simp, by go_simp⟩, hB0⟩
    (fun x => { tmps := #[.slice A zs.length cap, .int .u64 done, .int .u64 out, undef, undef, undef, .int .i64 0, .pointer (some ⟨w.heap.size, 0, none⟩), .slice A zs.length cap, .int .u64 done, .int .u64 out, .func (.func 18) #[] #[.pointer (some ⟨w.heap.size + 1, 0, none⟩), .pointer (some ⟨w.heap.size + 1 + 1, 0, none⟩), .pointer (some ⟨w.heap.size + 1 + 1 + 1, 0, none⟩)], .int .i64 x, undef, undef, undef], defers := [] }) ?assign ?body ?done ?stop
  case assign =>
    intro l x W K hK
    gi_wp2
    simpa using hK
  case body =>
    rintro l pre x W ⟨⟨hc, hf⟩, hB⟩ hN
    gi_wp2
    exact ⟨(KeepsOthers.setCell _ _ _).from _, LKp.store W (Nat.le_refl _) (by omega) (by omega) _, ⟨by simpa using World.cell?_setCell_same' _ _ _ (by rw [hc]; rfl), by rw [World.frozen?_setCell]; exact hf⟩, hB.setCell (p := ⟨w.heap.size, 0, none⟩) (Nat.le_refl _) _⟩
  case done =>
    rintro D ys W hD rfl ⟨⟨hc, _⟩, hB⟩ hK
    gi_wp2
    refine ⟨by simp, .inl ⟨_, _, rfl, run_takeDeferred hK, ?_⟩⟩
    exact ⟨_, results_tmp rfl _ _ _, rfl, hB.trans (belowK_b (w := w) (Nat.le_refl _) W D _ _ (by simp at hD; omega) hK rfl rfl)⟩
  case stop =>
    rintro D c pre W _ _ h _
    exact h.elim
set_option maxRecDepth 100000 in
set_option maxHeartbeats 4000000 in
theorem next_in (A : Option Addr) (cap : Nat) (zs : List Int) (done out : Int) (w : World) (hr : Kd.C (Kd.int .i64) w A zs.length zs) :
    CallsIn FW 4 Try.prog 9 #[.slice A zs.length cap, .int .u64 done, .int .u64 out] w fun e W' => e = .returned (.int .i64 (nextF zs done out)) ∧ Below w.heap.size w W' := by
  have hI0 := ints_of hr
  have hlen : zs.length ≤ 9223372036854775807 := hr.2.1
  clear hr
  refine callsIn_of_wp_marks Try.func9 rfl trivial ?_ rfl
  simp only [Try.ntmps9, List.size_toArray, List.length_cons, List.length_nil, Nat.reduceAdd, Nat.reduceSub, Array.replicate_succ, Array.replicate_zero, List.push_toArray, List.append_toArray, List.nil_append, List.cons_append]
  have f17 : FW.fn 17 := trivial
  gi_wp2_with (gi_at_call 17; refine (callsIn_wide.2 (left_any _ _ _ _ _ _)).mono ?_; rintro e w' ⟨rfl, rfl⟩)
  have hB0 : Below w.heap.size w ((((w.alloc (.cells #[.int .i64 0] 3)).alloc (.cells #[.slice A zs.length cap] 22)).alloc (.cells #[.int .u64 done] 23)).alloc (.cells #[.int .u64 out] 23)) := below_alloc (below_alloc (below_alloc (below_alloc (Below.refl _ w) _) _) _) _
  have hI : zs = [] ∨ ∃ b off, A = some ⟨b, off, none⟩ ∧ b < w.heap.size ∧ ∀ j, j < zs.length → ((((w.alloc (.cells #[.int .i64 0] 3)).alloc (.cells #[.slice A zs.length cap] 22)).alloc (.cells #[.int .u64 done] 23)).alloc (.cells #[.int .u64 out] 23)).cell? ⟨b, off + j, none⟩ = some (.int .i64 (zs[j]?.getD 0)) := by
    rcases hI0 with h | ⟨b, off, e, hb, hc⟩
    · exact .inl h
    · exact .inr ⟨b, off, e, hb, fun j hj => pw_cell_below hB0 (hc j hj)⟩
  clear hI0
  refine wpIn_rangeFunc_ownG rfl (by omega) (gf := 18) (lb := #[.pointer (some ⟨w.heap.size + 1, 0, none⟩), .pointer (some ⟨w.heap.size + 1 + 1, 0, none⟩), .pointer (some ⟨w.heap.size + 1 + 1 + 1, 0, none⟩)]) rfl trivial (enters_of Try.func18 (by kernel_rfl) rfl)
    (left_stops 3 (by omega) (w.heap.size + 1) (w.heap.size + 1 + 1) (w.heap.size + 1 + 1 + 1) w.heap.size A cap done out zs hlen _ (by simp; omega) (by simp) (by simp) (by simp) (by go_simp) (by go_simp) (by go_simp) hI)
    LKp.trans (LKp.book (by simp; omega) (by simp) (by simp)) (Below.refl _ _) (fun _ => rfl)
    (fun pre W => (pre = [] ∧ W.cell? ⟨w.heap.size, 0, none⟩ = some (.int .i64 0) ∧ W.frozen? ⟨w.heap.size, 0, none⟩ = false) ∧ Below w.heap.size w W)
    (fun c pre W => (c = .ret ∧ ∃ x, pre = [x] ∧ W.cell? ⟨w.heap.size, 0, none⟩ = some (.int .i64 x)) ∧ Below w.heap.size w W)
    (OwnFrom.and (Own.from (fun s A B row hs hg hr => ⟨hs.1, cell_kept hs.2.1 hg hr, (frozen_kept hs.2.1 hg hr).trans hs.2.2⟩) _) (ownFrom_below (Nat.le_refl _) (by simp; omega)))
    (fun c => OwnFrom.and (Own.from (fun s A B row hs hg hr => by obtain ⟨hc, x, e1, e2⟩ := hs; exact ⟨hc, x, e1, cell_kept e2 hg hr⟩) _) (ownFrom_below (Nat.le_refl _) (by simp; omega)))
    ⟨⟨rfl, by go_simp, by go_simp⟩, hB0⟩
    (fun x => { tmps := #[.slice A zs.length cap, .int .u64 done, .int .u64 out, undef, undef, undef, .pointer (some ⟨w.heap.size, 0, none⟩), .int .i64 x, .slice A zs.length cap, .int .u64 done, .int .u64 out, .func (.func 18) #[] #[.pointer (some ⟨w.heap.size + 1, 0, none⟩), .pointer (some ⟨w.heap.size + 1 + 1, 0, none⟩), .pointer (some ⟨w.heap.size + 1 + 1 + 1, 0, none⟩)], .int .i64 x, undef], defers := [] }) ?assign ?body ?done ?stop
  case assign =>
    intro l x W K hK
    gi_wp2
    simpa using hK
  case body =>
    rintro l pre x W ⟨⟨rfl, hc, hf⟩, hB⟩ hN
    gi_wp2
    exact ⟨(KeepsOthers.setCell _ _ _).from _, ⟨rfl, x, rfl, World.cell?_setCell_same' _ _ _ (by rw [hc]; rfl)⟩, hB.setCell (p := ⟨w.heap.size, 0, none⟩) (Nat.le_refl _) _⟩
  case done =>
    rintro D ys W hD hys ⟨⟨rfl, hc, hf⟩, hB⟩ hK
    have e := Aside0.mk (show nextF zs done out = -1 by unfold nextF; rw [← hys]; rfl)
    gi_wp2
    have hK' := (KeepsOthers.setCell W ⟨w.heap.size, 0, none⟩ (.int .i64 (-1))).same D _ hK rfl
    refine ⟨by simp, .inl ⟨_, _, rfl, run_takeDeferred hK', ?_⟩⟩
    have hc5 := cell_kept (World.cell?_setCell_same' W ⟨w.heap.size, 0, none⟩ (.int .i64 (-1)) (by rw [hc]; rfl)) (grownBy_putObj' _ D (.deferred none)) (fun r e => by cases e; exact ⟨_, hK', rfl⟩)
    refine ⟨.int .i64 (-1), ?_, by rw [e.out], (hB.setCell (p := ⟨w.heap.size, 0, none⟩) (Nat.le_refl _) _).trans (belowK_b (w := w) (Nat.le_refl _) _ D _ _ (by simp at hD; omega) hK' rfl rfl)⟩
    simp [results, Try.f9, go_sem, hc5]
  case stop =>
    rintro D c pre W hD ⟨k, hk, hcm, hpre⟩ ⟨⟨rfl, x, rfl, hcr⟩, hB⟩ hK
    have e := Aside0.mk (show nextF zs done out = x by
      have h1 : (zs.take k).filter (comes done out) = [] ∧ x = zs[k]?.getD 0 := by
        cases hz : (zs.take k).filter (comes done out) with
        | nil => rw [hz] at hpre; simpa using hpre
        | cons y l => rw [hz] at hpre; simp at hpre
      have h2 : zs = zs.take k ++ (zs[k]?.getD 0 :: zs.drop (k + 1)) := by
        rw [List.getElem?_eq_getElem hk, Option.getD_some, ← List.drop_eq_getElem_cons hk, List.take_append_drop]
      unfold nextF
      rw [h2, List.filter_append, h1.1, List.nil_append, List.filter_cons_of_pos hcm, h1.2]; rfl)
    clear hk hcm hpre
    gi_wp2
    refine ⟨by simp, .inl ⟨_, _, rfl, run_takeDeferred hK, ?_⟩⟩
    have hc5 := cell_kept hcr (grownBy_putObj' _ D (.deferred none)) (fun r e => by cases e; exact ⟨_, hK, rfl⟩)
    refine ⟨.int .i64 x, ?_, by rw [e.out], hB.trans (belowK_b (w := w) (Nat.le_refl _) W D _ _ (by simp at hD; omega) hK rfl rfl)⟩
    simp [results, Try.f9, go_sem, hc5]

def order_Next.f (l0 : List Int) (a1 : Int) (a2 : Int) : Option (Int) := some (nextF l0 a1 a2)
theorem order_Next.calls (A0 : Option Addr) (c0 : Nat) (l0 : List Int) (a1 : Int) (a2 : Int) (r : Int) (w : World) (hr0 : Kd.C (Kd.int .i64) w A0 l0.length l0) (hc0 : l0.length ≤ c0) (h : order_Next.f l0 a1 a2 = some r) :
    Calls Try.prog 9 #[.slice A0 l0.length c0, .int .u64 a1, .int .u64 a2] w fun e w' => e = .returned (.int .i64 r) ∧ Below w.heap.size w w' := by
  obtain rfl := Option.some.inj h
  exact callsIn_wide.1 (next_in A0 c0 l0 a1 a2 w hr0)
def order_Left.f (l0 : List Int) (a1 : Int) (a2 : Int) : Option (Int) := some (leftF l0 a1 a2)
theorem order_Left.calls (A0 : Option Addr) (c0 : Nat) (l0 : List Int) (a1 : Int) (a2 : Int) (r : Int) (w : World) (hr0 : Kd.C (Kd.int .i64) w A0 l0.length l0) (hc0 : l0.length ≤ c0) (h : order_Left.f l0 a1 a2 = some r) :
    Calls Try.prog 11 #[.slice A0 l0.length c0, .int .u64 a1, .int .u64 a2] w fun e w' => e = .returned (.int .i64 r) ∧ Below w.heap.size w w' := by
  obtain rfl := Option.some.inj h
  exact callsIn_wide.1 (left_in A0 c0 l0 a1 a2 w hr0)
end Go.Proofs.Ytbaklgemdljmeaa.X
