/- PhaseAccepts: how many of any rows follow each other is the document's; they may be cut anywhere. -/
import Derived.Test.YtpnofbiflaahhaaDoorPsPhaseAccepts
import Derived.Test.YtpnofbiflaahhaaDoorPhaseAcc
namespace Go.Proofs.YtpnofbiflaahhaaDoor.Pure
open Go.RowKit Go.Proofs.YtpnofbiflaahhaaDoor.X Go.Proofs.YtpnofbiflaahhaaDoorW.PrintWords Go.Proofs.YtpnofbiflaahhaaDoorW.PrintLast

theorem acc_sub (rows : List (List Int)) (N kk : Nat) (hN : N ≤ rows.length) (hp : pre rows N) (hk : kk ≤ N) : IsAcc ((rows.take N).drop kk) (N - kk) := by
  have hlen : ((rows.take N).drop kk).length = N - kk := by simp; omega
  refine ⟨by omega, fun i hi => ?_, Or.inl hlen.symm⟩
  have hg : ∀ j, j < N - kk → ((rows.take N).drop kk).getD j [] = rows.getD (kk + j) [] := by
    intro j hj
    rw [List.getD_eq_getElem?_getD, List.getD_eq_getElem?_getD, List.getElem?_drop, List.getElem?_take_of_lt (by omega)]
  unfold okR
  by_cases h0 : i = 0
  · rw [if_pos h0, hg 0 (by omega)]
    have := hp (kk + 0) (by omega)
    unfold okR at this
    by_cases hz : kk = 0
    · subst hz; rw [if_pos rfl] at this; exact this
    · rw [if_neg (by omega)] at this
      unfold followsB at this
      simp only [Bool.and_eq_true] at this
      exact this.2.2.1
  · rw [if_neg h0, hg i hi, hg (i - 1) (by omega)]
    have := hp (kk + i) (by omega)
    unfold okR at this
    rw [if_neg (by omega), show kk + i - 1 = kk + (i - 1) by omega] at this
    exact this
theorem acc_take (rows : List (List Int)) (N kk : Nat) (hN : N ≤ rows.length) (hp : pre rows N) (hk : kk ≤ N) : IsAcc (rows.take kk) kk := by
  have hlen : (rows.take kk).length = kk := by simp; omega
  refine ⟨by omega, fun i hi => ?_, Or.inl hlen.symm⟩
  have hg : ∀ j, j < kk → (rows.take kk).getD j [] = rows.getD j [] := by
    intro j hj
    rw [List.getD_eq_getElem?_getD, List.getD_eq_getElem?_getD, List.getElem?_take_of_lt (by omega)]
  have := hp i (by omega)
  unfold okR at this ⊢
  by_cases h0 : i = 0
  · rw [if_pos h0] at this ⊢; rw [hg 0 (by omega)]; exact this
  · rw [if_neg h0] at this ⊢; rw [hg i hi, hg (i - 1) (by omega)]; exact this
theorem small_sub {rows sub : List (List Int)} (hs : ∀ x ∈ rows, x.length ≤ 70) (h : ∀ x ∈ sub, x ∈ rows) : ∀ x ∈ sub, x.length ≤ 70 := fun x hx => hs x (h x hx)
theorem accepts_end (rows : List (List Int)) (hr : rows.length ≤ 40) (hs : ∀ x ∈ rows, x.length ≤ 70) (N : Nat) (hN : IsAcc rows N) (a : Int) (ha : 0 ≤ a ∧ a ≤ 255) (k : Nat) (hk : 5000 ≤ k) (q : Bool) :
    paternosterlaw21_PhaseAccepts.l0 (k + 1) rows a N q rows.length = some true := by
  simp only [paternosterlaw21_PhaseAccepts.l0]
  rw [if_neg (by omega), accept_eq rows (by omega) hs N hN k hk]
  simp only [Option.bind_some, if_true]
  have hNl := hN.1
  rw [wrap_in (x := a) (by omega) (by omega), wrap_in (x := (N : Int) + 1) (by omega) (by omega), if_neg (by omega), Int.tmod_eq_emod_of_nonneg ha.1]
  have h0 := Int.emod_nonneg a (show ((N : Int) + 1) ≠ 0 by omega)
  have h1 := Int.emod_lt_of_pos a (show (0 : Int) < (N : Int) + 1 by omega)
  obtain ⟨c, hc⟩ : ∃ c : Nat, a % ((N : Int) + 1) = c := ⟨(a % ((N : Int) + 1)).toNat, by omega⟩
  rw [hc] at h0 h1 ⊢
  have hcN : c ≤ N := by omega
  have e1 := accept_eq ((rows.take N).drop c) (by simp; omega) (small_sub hs fun x hx => List.mem_of_mem_take (List.mem_of_mem_drop hx)) (N - c) (acc_sub rows N c hNl hN.2.1 hcN) k hk
  have e2 := accept_eq (rows.take c) (by simp; omega) (small_sub hs fun x hx => List.mem_of_mem_take hx) c (acc_take rows N c hNl hN.2.1 hcN) k hk
  simp only [Int.toNat_natCast]
  rw [if_pos h0, if_pos (by omega), if_pos (by omega), e1, wrap_in (x := (N : Int) - c) (by omega) (by omega)]
  simp only [Option.bind_some]
  rw [if_pos (by omega), if_pos (by omega), e2]
  simp
theorem accepts_loop (rows : List (List Int)) (hr : rows.length ≤ 40) (a : Int) (ha : 0 ≤ a ∧ a ≤ 255) (m : Nat) : ∀ (i : Nat) (k N : Nat) (q : Bool), rows.length - i = m → i ≤ rows.length → 20010 + m ≤ k → (∀ j, j < i → (rows.getD j []).length ≤ 70) →
    (q = true → N = i ∧ pre rows i) → (q = false → N < i ∧ pre rows N ∧ okR rows N = false) →
    paternosterlaw21_PhaseAccepts.l0 k rows a N q i = some true := by
  induction m with
  | zero =>
    intro i k N q hm hi hk hs hq hq'
    obtain ⟨k, rfl⟩ : ∃ n, k = n + 1 := ⟨k - 1, by omega⟩
    have hil : i = rows.length := by omega
    subst hil
    have hs' : ∀ x ∈ rows, x.length ≤ 70 := by
      intro x hx
      obtain ⟨n, hn, rfl⟩ := List.getElem_of_mem hx
      have := hs n hn
      rw [List.getD_eq_getElem?_getD, List.getElem?_eq_getElem hn] at this
      exact this
    refine accepts_end rows hr hs' N ?_ a ha k (by omega) q
    cases q
    · obtain ⟨h1, h2, h3⟩ := hq' rfl
      exact ⟨by omega, h2, Or.inr h3⟩
    · obtain ⟨rfl, h2⟩ := hq rfl
      exact ⟨by omega, h2, Or.inl rfl⟩
  | succ m ih =>
    intro i k N q hm hi hk hs hq hq'
    obtain ⟨k, rfl⟩ : ∃ n, k = n + 1 := ⟨k - 1, by omega⟩
    have hlt : (i : Int) < (rows.length : Int) := by omega
    have er : rd_L1 rows (i : Int) = rows.getD i [] := by unfold rd_L1; rw [Int.toNat_natCast]
    simp only [paternosterlaw21_PhaseAccepts.l0]
    rw [if_pos hlt, if_pos (by omega), er]
    by_cases hbig : (((rows.getD i []).length : Nat) : Int) > 70
    · rw [if_pos hbig]
    · rw [if_neg hbig, fits_ref' _ (by omega) _ (by omega)]
      simp only [Option.bind_some]
      have hs2 : ∀ j, j < i + 1 → (rows.getD j []).length ≤ 70 := fun j hj => by
        by_cases e : j = i
        · rw [e]; omega
        · exact hs j (by omega)
      have ei : wrap64 ((i : Int) + 1) = ((i + 1 : Nat) : Int) := by rw [wrap_in (by omega) (by omega)]; omega
      have key : ∀ f : Bool, f = okR rows i → (if q = true then (if f = true then paternosterlaw21_PhaseAccepts.l0 k rows a (wrap64 ((N : Int) + 1)) f (wrap64 ((i : Int) + 1)) else paternosterlaw21_PhaseAccepts.l0 k rows a N f (wrap64 ((i : Int) + 1))) else paternosterlaw21_PhaseAccepts.l0 k rows a N false (wrap64 ((i : Int) + 1))) = some true := by
        intro f hf
        rw [ei]
        cases q
        · obtain ⟨h1, h2, h3⟩ := hq' rfl
          exact ih (i + 1) k N false (by omega) (by omega) (by omega) hs2 (fun h => by cases h) (fun _ => ⟨by omega, h2, h3⟩)
        · obtain ⟨rfl, h2⟩ := hq rfl
          cases f
          · exact ih (N + 1) k N false (by omega) (by omega) (by omega) hs2 (fun h => by cases h) (fun _ => ⟨by omega, h2, hf.symm⟩)
          · rw [ei]
            refine ih (N + 1) k (N + 1) true (by omega) (by omega) (by omega) hs2 (fun _ => ⟨rfl, fun j hj => ?_⟩) (fun h => by cases h)
            by_cases e : j = N
            · rw [e]; exact hf.symm
            · exact h2 j (by omega)
      by_cases hz : i = 0
      · subst hz
        rw [if_neg (by simp)]
        exact key _ (by unfold okR; rw [if_pos rfl])
      · have em : wrap64 ((i : Int) - 1) = ((i - 1 : Nat) : Int) := by rw [wrap_in (by omega) (by omega)]; omega
        have er' : rd_L1 rows ((i - 1 : Nat) : Int) = rows.getD (i - 1) [] := by unfold rd_L1; rw [Int.toNat_natCast]
        rw [if_pos (by omega), em, if_pos (by omega), if_pos (by omega), er', follows_ref _ _ (by have := hs (i - 1) (by omega); omega) (by omega) _ (by omega)]
        simp only [Option.bind_some]
        exact key _ (by unfold okR; rw [if_neg hz])
theorem PhaseAccepts : paternosterlaw21_PhaseAccepts.PureS := by
  intro rows a _ ha
  have ha : 0 ≤ a ∧ a ≤ 255 := by
    simp [Lit.wf, IntKind.min, IntKind.max, IntKind.signed, IntKind.bits] at ha
    omega
  refine ⟨40 + 30000, ?_⟩
  unfold paternosterlaw21_PhaseAccepts.f
  rw [awake1]
  simp only [Option.bind_some, if_true]
  by_cases h1 : (rows.length : Int) > 40
  · rw [if_pos h1]
  · rw [if_neg h1]
    exact accepts_loop rows (by omega) a ha rows.length 0 (40 + 30000) 0 true (by omega) (by omega) (by omega) (fun j hj => by omega) (fun _ => ⟨rfl, fun j hj => by omega⟩) (fun h => by cases h)
end Go.Proofs.YtpnofbiflaahhaaDoor.Pure
