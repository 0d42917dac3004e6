/- What a meter's tick comes to: all that is drawn together, no more than the bound. -/
import Derived.Test.YtnhiokgkhbiflaaMeterTab
import Derived.Test.YtnhiokgkhbiflaaSatPlain2
import Derived.Test.YtnhiokgkhbiflaaXx15
namespace Go.Proofs.Ytnhiokgkhbiflaa.X
open Go.RowKit Go.Proofs.YtnhiokgkhbiflaaW.PrintWords

/-- All that is drawn together. -/
def tot (l : List Int) : Int := (pos l).foldl (· + ·) 0
/-- .. as it is metered. -/
def sumV (l : List Int) : Int := mn (tot l) 1099511627776
theorem foldl_add (l : List Int) (x : Int) : l.foldl (· + ·) x = x + l.foldl (· + ·) 0 := by
  induction l generalizing x with
  | nil => simp
  | cons y l ih => simp only [List.foldl_cons]; rw [ih (x + y), ih (0 + y)]; omega
theorem tot_nil : tot [] = 0 := rfl
theorem tot_cons (y : Int) (l : List Int) : tot (y :: l) = mx y 0 + tot l := by
  unfold tot pos
  simp only [List.map_cons, List.foldl_cons]
  rw [foldl_add]; omega
theorem tot_append (a b : List Int) : tot (a ++ b) = tot a + tot b := by
  induction a with
  | nil => simp [tot_nil]
  | cons y a ih => rw [List.cons_append, tot_cons, tot_cons, ih]; omega
theorem tot_nonneg (l : List Int) : 0 ≤ tot l := by
  induction l with
  | nil => simp [tot_nil]
  | cons y l ih => rw [tot_cons]; have : 0 ≤ mx y 0 := by (unfold mx; split <;> omega)
                   omega
theorem sumV_bd (l : List Int) : 0 ≤ sumV l ∧ sumV l ≤ 1099511627776 := by
  have := tot_nonneg l
  unfold sumV mn; split <;> omega
/-- One number more, of none below 0. -/
theorem addV_pos {x y : Int} (h0 : 0 ≤ x) (h1 : x ≤ 1099511627776) (h2 : 0 ≤ y) : addV x y = mn (x + y) 1099511627776 := by
  have hb : ∀ z : Int, 0 ≤ z → bnd z = mn z 1099511627776 := by
    intro z hz
    unfold bnd mx mn
    repeat' split
    all_goals omega
  have e1 : bnd x = x := by rw [hb x h0]; unfold mn; split <;> omega
  unfold addV
  rw [e1, hb y h2]
  have h3 : 0 ≤ mn y 1099511627776 ∧ mn y 1099511627776 ≤ 1099511627776 := by unfold mn; split <;> omega
  have e2 : mn y 1099511627776 = y ∨ (1099511627776 ≤ y ∧ mn y 1099511627776 = 1099511627776) := by unfold mn; split <;> omega
  generalize mn y 1099511627776 = z at *
  rw [show wrap64 (x + z) = x + z by unfold wrap64; omega, hb _ (by omega)]
  unfold mn
  repeat' split
  all_goals omega
theorem fold_pos (l : List Int) : ∀ (x : Int) (m : Bool), 0 ≤ x → x ≤ 1099511627776 → ((pos l).foldl stp (x, m)).1 = mn (x + tot l) 1099511627776 := by
  induction l with
  | nil => intro x m h0 h1; simp only [pos, List.map_nil, List.foldl_nil, tot_nil]; unfold mn; split <;> omega
  | cons y l ih =>
    intro x m h0 h1
    have h2 : 0 ≤ mx y 0 := by unfold mx; split <;> omega
    have ht := tot_nonneg l
    have e : pos (y :: l) = mx y 0 :: pos l := rfl
    rw [e, List.foldl_cons]
    have hst : stp (x, m) (mx y 0) = (mn (x + mx y 0) 1099511627776, m || addM x (mx y 0)) := by unfold stp; rw [addV_pos h0 h1 h2]
    rw [hst, tot_cons]
    have h3 : 0 ≤ mn (x + mx y 0) 1099511627776 ∧ mn (x + mx y 0) 1099511627776 ≤ 1099511627776 := by unfold mn; split <;> omega
    rw [ih _ _ h3.1 h3.2]
    generalize mx y 0 = z at *
    unfold mn
    repeat' split
    all_goals omega
theorem sum_v (zs : List Int) (hl : zs.length ≤ 1000000) : ∃ s, sat_Sum.f (zs.length + 1) (pos zs) = some (sumV zs, s) := by
  have hlp : (pos zs).length = zs.length := by simp [pos]
  refine ⟨((pos zs).foldl stp (0, false)).2, ?_⟩
  rw [sum_eq (pos zs) (by omega) _ (by omega)]
  have := fold_pos zs 0 false (by omega) (by omega)
  rw [Int.zero_add] at this
  unfold sumV
  rw [← this]
/-- The document's sum. -/
theorem rsum_loop (zs : List Int) (hl : zs.length ≤ 1000000) (d : Nat) : ∀ (k : Nat) (x i : Int), 0 ≤ i → (zs.length : Int) - i = d → d < k → 0 ≤ x → x ≤ 1099511627776 →
    paternosterlaw11_sum.l0 k zs x i = some (mn (x + tot (zs.drop i.toNat)) 1099511627776) := by
  induction d with
  | zero =>
    intro k x i h0 hd hk hx0 hx1
    obtain ⟨k, rfl⟩ : ∃ m, k = m + 1 := ⟨k - 1, by omega⟩
    simp only [paternosterlaw11_sum.l0]
    rw [if_neg (by omega), List.drop_eq_nil_of_le (by omega), tot_nil]
    unfold mn; split
    · omega
    · congr 1; omega
  | succ d ih =>
    intro k x i h0 hd hk hx0 hx1
    obtain ⟨k, rfl⟩ : ∃ m, k = m + 1 := ⟨k - 1, by omega⟩
    have hi : i.toNat < zs.length := by omega
    have e : zs.drop i.toNat = zs[i.toNat] :: zs.drop (i + 1).toNat := by rw [List.drop_eq_getElem_cons hi, show (i + 1).toNat = i.toNat + 1 by omega]
    have er : rd zs i = zs[i.toNat] := by unfold rd; rw [List.getD_eq_getElem?_getD, List.getElem?_eq_getElem hi]; rfl
    have ht := tot_nonneg (zs.drop (i + 1).toNat)
    simp only [paternosterlaw11_sum.l0]
    rw [if_pos (by omega), if_pos h0, er, e, tot_cons, show wrap64 (i + 1) = i + 1 by unfold wrap64; omega]
    generalize zs[i.toNat] = y at *
    by_cases c : y > 0
    · rw [if_pos c, radd_eq, addV_pos hx0 hx1 (by omega)]
      simp only [Option.bind_some]
      have h3 : 0 ≤ mn (x + y) 1099511627776 ∧ mn (x + y) 1099511627776 ≤ 1099511627776 := by unfold mn; split <;> omega
      rw [ih k _ (i + 1) (by omega) (by omega) (by omega) h3.1 h3.2]
      congr 1
      have e2 : mx y 0 = y := by unfold mx; split <;> omega
      rw [e2]
      unfold mn
      repeat' split
      all_goals omega
    · have e2 : mx y 0 = 0 := by unfold mx; split <;> omega
      rw [if_neg c, ih k x (i + 1) (by omega) (by omega) (by omega) hx0 hx1, e2, Int.zero_add]
theorem rsum_f (zs : List Int) (hl : zs.length ≤ 1000000) (k : Nat) (hk : zs.length < k) : paternosterlaw11_sum.f k zs = some (sumV zs) := by
  have := rsum_loop zs hl zs.length k 0 0 (by omega) (by omega) hk (by omega) (by omega)
  unfold paternosterlaw11_sum.f sumV
  rw [this]; simp
theorem tick_v (g : Nat) (a h t t' : Int) (A : Option Addr) (c : Nat) (zs : List Int) (w : World) (m : MB g a h t w) (hr : Kd.C (Kd.int .i64) w A zs.length zs) (hlen : zs.length ≤ 1000000) (ht : wrap64 (t + 1) = t') :
    Calls Try.prog 31 #[.pointer (some ⟨g, 0, none⟩), .slice A zs.length c] w fun e w' => e = .returned (.int .i64 (sumV zs)) ∧ MB g (sumV zs) (mx h (sumV zs)) t' w' ∧ But g w w' := by
  obtain ⟨s, hs⟩ := sum_v zs hlen
  exact tick_any _ g a h t _ t' s A c zs w m hr hlen hs ht
/-- A row of whole numbers that was just made. -/
theorem lit_C {w : World} {b : Nat} {t : TypeId} {zs : List Int} (h : w.heap[b]? = some (.cells (zs.map (Value.int .i64)).toArray t (0, 0))) (hl : zs.length ≤ 1000) : Kd.C (Kd.int .i64) w (some ⟨b, 0, none⟩) zs.length zs := by
  refine Kd.C_of_reads (enc := Value.int .i64) (d := (0 : Int)) (h1 := fun _ => rfl) ⟨rfl, by omega, fun _ => ⟨_, rfl, fun j hj => ?_⟩⟩
  have e : (⟨b, 0, none⟩ : Addr).add j = ⟨b, j, none⟩ := by
    unfold Addr.add; split
    · rename_i h; subst h; rfl
    · simp
  rw [e, blk_cell h j, List.getElem?_toArray, List.getElem?_map, List.getD_eq_getElem?_getD, List.getElem?_eq_getElem hj]; rfl
end Go.Proofs.Ytnhiokgkhbiflaa.X
