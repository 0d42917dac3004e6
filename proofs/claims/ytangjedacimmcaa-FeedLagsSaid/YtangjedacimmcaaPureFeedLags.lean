/- FeedLags: a capacity that stays is known as many ticks later as it takes, and none is known that wasn't told. No condition. -/
import Derived.Test.YtangjedacimmcaaXx8
import Derived.Test.YtangjedacimmcaaFeedPlain
import Derived.Test.YtangjedacimmcaaFeedTell
namespace Go.Proofs.Ytangjedacimmcaa.Pure
open Go.RowKit Go.Proofs.Ytangjedacimmcaa.X Go.Proofs.YtangjedacimmcaaW.PrintWords Go.Proofs.YtangjedacimmcaaW.PrintLast

def histL (l : List Int) (c : Int) (m : Int) : Int := if m < 0 then 0 else if m < (l.length : Int) then rd l m else c
theorem rd_u16 (l : List Int) (h : ∀ x ∈ l, (Lit.int .u16 x).wf = true) (i : Int) : 0 ≤ rd l i ∧ rd l i ≤ 65535 := by
  unfold rd
  rw [List.getD_eq_getElem?_getD]
  by_cases hi : i.toNat < l.length
  · rw [List.getElem?_eq_getElem hi]
    have := wf_u16 (h _ (List.getElem_mem hi))
    simpa using this
  · rw [List.getElem?_eq_none (by omega)]; simp
theorem cap_u16 {x : Int} (h0 : 0 ≤ x) (h1 : x ≤ 65535) : capOf x = x := by
  unfold capOf
  rw [mx_l (by omega), mn_l (by omega)]
theorem lags_loop1 (l : List Int) (hl : (l.length : Int) ≤ 60) (hw : ∀ x ∈ l, (Lit.int .u16 x).wf = true) (c : Int) (hc0 : 0 ≤ c) (hc1 : c ≤ 65535) (L : Int) (hL0 : 0 ≤ L) (hL8 : L ≤ 8) (H : Int → Int) (hH : H = histL l c) (n : Nat) : ∀ (j : Int) (k : Nat) (i : Int) (y1 y2 y3 y4 y5 y6 y7 y8 : Int), i = (l.length : Int) + j → 0 ≤ j → j ≤ 20 → 20 - j ≤ n → 2 * n + 3 ≤ k → y1 = H (i - 1) → y2 = H (i - 2) → y3 = H (i - 3) → y4 = H (i - 4) → y5 = H (i - 5) → y6 = H (i - 6) → y7 = H (i - 7) → y8 = H (i - 8) →
    paternosterlaw10_FeedLags.l1 k l c L j L y1 y2 y3 y4 y5 y6 y7 y8 = some true := by
  have ec : wrap64 c = c := wrap_in (by omega) (by omega)
  induction n with
  | zero =>
    intro j k i y1 y2 y3 y4 y5 y6 y7 y8 hi h0 hj hn hk h1 h2 h3 h4 h5 h6 h7 h8
    obtain ⟨k, rfl⟩ : ∃ m, k = m + 1 := ⟨k - 1, by omega⟩
    simp only [paternosterlaw10_FeedLags.l1]
    rw [if_neg (by omega)]
  | succ n ih =>
    intro j k i y1 y2 y3 y4 y5 y6 y7 y8 hi h0 hj hn hk h1 h2 h3 h4 h5 h6 h7 h8
    obtain ⟨k, rfl⟩ : ∃ m, k = m + 2 := ⟨k - 2, by omega⟩
    simp only [paternosterlaw10_FeedLags.l1]
    by_cases hc : j < 20
    · have hcap : capOf c = H i := by rw [hH, cap_u16 hc0 hc1]; unfold histL; rw [if_neg (by omega), if_neg (by omega)]
      rw [if_pos hc, ec, tell_step L c i H hL0 hL8 hcap y1 y2 y3 y4 y5 y6 y7 y8 h1 h2 h3 h4 h5 h6 h7 h8]
      simp only [Option.bind_some, paternosterlaw10_FeedLags.j2]
      rw [wrap_in (x := (l.length : Int) + j) (by omega) (by omega), wrap_in (x := (l.length : Int) + j - L) (by omega) (by omega), wrap_in (x := j + 1) (by omega) (by omega), ← hi]
      have next := ih (j + 1) k (i + 1) (H i) y1 y2 y3 y4 y5 y6 y7 (by omega) (by omega) (by omega) (by omega) (by omega) (congrArg H (by omega)) (by rw [h1]; exact congrArg H (by omega)) (by rw [h2]; exact congrArg H (by omega)) (by rw [h3]; exact congrArg H (by omega)) (by rw [h4]; exact congrArg H (by omega)) (by rw [h5]; exact congrArg H (by omega)) (by rw [h6]; exact congrArg H (by omega)) (by rw [h7]; exact congrArg H (by omega))
      by_cases hjl : j ≥ L
      · have e : H (i - L) = c := by rw [hH]; unfold histL; rw [if_neg (by omega), if_neg (by omega)]
        rw [if_pos hjl, e, if_neg (by simp), if_neg (by omega), if_neg (by omega)]
        exact next
      · rw [if_neg hjl, if_neg (by simp), if_pos (by omega)]
        by_cases hz : i - L < 0
        · have e : H (i - L) = 0 := by rw [hH]; unfold histL; rw [if_pos hz]
          rw [if_neg (by omega), if_pos hz, if_pos e]
          exact next
        · have hr := rd_u16 l hw (i - L)
          have e : H (i - L) = rd l (i - L) := by rw [hH]; unfold histL; rw [if_neg hz, if_pos (by omega)]
          rw [if_pos (by omega), if_pos (by omega), if_pos (by omega), wrap_in (x := rd l (i - L)) (by omega) (by omega), if_pos e, if_neg hz]
          exact next
    · rw [if_neg hc]
theorem lags_loop0 (l : List Int) (hl : (l.length : Int) ≤ 60) (hw : ∀ x ∈ l, (Lit.int .u16 x).wf = true) (c : Int) (hc0 : 0 ≤ c) (hc1 : c ≤ 65535) (L : Int) (hL0 : 0 ≤ L) (hL8 : L ≤ 8) (H : Int → Int) (hH : H = histL l c) (n : Nat) : ∀ (i : Int) (k : Nat) (y1 y2 y3 y4 y5 y6 y7 y8 : Int), 0 ≤ i → i ≤ (l.length : Int) → (l.length : Int) - i ≤ n → n + 50 ≤ k → y1 = H (i - 1) → y2 = H (i - 2) → y3 = H (i - 3) → y4 = H (i - 4) → y5 = H (i - 5) → y6 = H (i - 6) → y7 = H (i - 7) → y8 = H (i - 8) →
    paternosterlaw10_FeedLags.l0 k l c L i L y1 y2 y3 y4 y5 y6 y7 y8 = some true := by
  induction n with
  | zero =>
    intro i k y1 y2 y3 y4 y5 y6 y7 y8 h0 hi hn hk h1 h2 h3 h4 h5 h6 h7 h8
    obtain ⟨k, rfl⟩ : ∃ m, k = m + 1 := ⟨k - 1, by omega⟩
    simp only [paternosterlaw10_FeedLags.l0]
    rw [if_neg (by omega)]
    exact lags_loop1 l hl hw c hc0 hc1 L hL0 hL8 H hH 20 0 k i y1 y2 y3 y4 y5 y6 y7 y8 (by omega) (by omega) (by omega) (by omega) (by omega) h1 h2 h3 h4 h5 h6 h7 h8
  | succ n ih =>
    intro i k y1 y2 y3 y4 y5 y6 y7 y8 h0 hi hn hk h1 h2 h3 h4 h5 h6 h7 h8
    obtain ⟨k, rfl⟩ : ∃ m, k = m + 1 := ⟨k - 1, by omega⟩
    simp only [paternosterlaw10_FeedLags.l0]
    by_cases hc : i < (l.length : Int)
    · have hr := rd_u16 l hw i
      have hcap : capOf (rd l i) = H i := by rw [hH, cap_u16 hr.1 hr.2]; unfold histL; rw [if_neg (by omega), if_pos hc]
      rw [if_pos hc, if_pos h0, wrap_in (x := rd l i) (by omega) (by omega), tell_step L (rd l i) i H hL0 hL8 hcap y1 y2 y3 y4 y5 y6 y7 y8 h1 h2 h3 h4 h5 h6 h7 h8, wrap_in (x := i + 1) (by omega) (by omega)]
      simp only [Option.bind_some]
      exact ih (i + 1) k (H i) y1 y2 y3 y4 y5 y6 y7 (by omega) (by omega) (by omega) (by omega) (congrArg H (by omega)) (by rw [h1]; exact congrArg H (by omega)) (by rw [h2]; exact congrArg H (by omega)) (by rw [h3]; exact congrArg H (by omega)) (by rw [h4]; exact congrArg H (by omega)) (by rw [h5]; exact congrArg H (by omega)) (by rw [h6]; exact congrArg H (by omega)) (by rw [h7]; exact congrArg H (by omega))
    · rw [if_neg hc]
      exact lags_loop1 l hl hw c hc0 hc1 L hL0 hL8 H hH 20 0 k i y1 y2 y3 y4 y5 y6 y7 y8 (by omega) (by omega) (by omega) (by omega) (by omega) h1 h2 h3 h4 h5 h6 h7 h8
theorem FeedLags : paternosterlaw10_FeedLags.Pure := by
  intro a l c ha _ _ hw hc
  have ha := wf_u8 ha
  have hc := wf_u16 hc
  refine ⟨1000, ?_⟩
  simp only [paternosterlaw10_FeedLags.f, paternosterlaw10_awake.f, feed_New.f, Option.bind_some, if_true]
  by_cases h : (l.length : Int) > 60
  · rw [if_pos h]
  · rw [if_neg h]
    obtain ⟨L, hL⟩ : ∃ L, wrap64 (Int.tmod a 9) = L := ⟨_, rfl⟩
    have hb : 0 ≤ L ∧ L ≤ 8 := by
      rw [← hL, Int.tmod_eq_emod_of_nonneg ha.1, wrap_in (by omega) (by omega)]
      omega
    have hlag : lagOf L = L := by
      unfold lagOf
      rw [mx_l (by omega), mn_l (by omega)]
    rw [hL, hlag]
    have z : ∀ j : Int, j < 0 → (0 : Int) = histL l c j := fun j hj => by unfold histL; rw [if_pos hj]
    exact lags_loop0 l (by omega) hw c hc.1 hc.2 L hb.1 hb.2 (histL l c) rfl 60 0 1000 0 0 0 0 0 0 0 0 (by omega) (by omega) (by omega) (by decide) (z _ (by omega)) (z _ (by omega)) (z _ (by omega)) (z _ (by omega)) (z _ (by omega)) (z _ (by omega)) (z _ (by omega)) (z _ (by omega))
end Go.Proofs.Ytangjedacimmcaa.Pure
