/- Whether the order has each car once. -/
import Derived.Test.YtomaojmccchibaaConfM1
import Derived.Test.YtomaojmccchibaaXx8
import Derived.Maps.Views
import Derived.Maps.Keyed
import Derived.Deep.RegionHeld3
import Derived.Deep.RegionLaw
namespace Go.Proofs.Ytomaojmccchibaa.X
open Go.RowKit Go.Proofs.YtomaojmccchibaaW.PrintWords Go.Proofs.YtomaojmccchibaaW.PrintLast Go.Proofs.YtomaojmccchibaaW.PrintMore
open Go.Maps (Keyed has size Tidy)
set_option linter.unusedVariables false
set_option linter.unusedSimpArgs false

/-- How many cars banks have. -/
def carsV (l : List S38) : Int := l.foldl (fun n b => wrap64 (n + b.f0)) 0
theorem cars_loop (l : List S38) (hl : l.length ≤ 1000) (d : Nat) : ∀ (k : Nat) (x i : Int), 0 ≤ i → (l.length : Int) - i = d → d < k →
    conf_Cars.l0 k x l (l.length : Int) i = some ((l.drop i.toNat).foldl (fun n b => wrap64 (n + b.f0)) x) := by
  induction d with
  | zero =>
    intro k x i h0 hd hk
    obtain ⟨k, rfl⟩ : ∃ m, k = m + 1 := ⟨k - 1, by omega⟩
    simp only [conf_Cars.l0]
    rw [if_neg (by omega), List.drop_eq_nil_of_le (by omega)]; rfl
  | succ d ih =>
    intro k x i h0 hd hk
    obtain ⟨k, rfl⟩ : ∃ m, k = m + 1 := ⟨k - 1, by omega⟩
    have hi : i.toNat < l.length := by omega
    have e : l.drop i.toNat = l[i.toNat] :: l.drop (i + 1).toNat := by rw [List.drop_eq_getElem_cons hi, show (i + 1).toNat = i.toNat + 1 by omega]
    have er : rd_T38 l i = l[i.toNat] := by unfold rd_T38; rw [List.getD_eq_getElem?_getD, List.getElem?_eq_getElem hi]; rfl
    simp only [conf_Cars.l0]
    rw [if_pos (by omega), if_pos h0, if_pos (by omega), er, e, List.foldl_cons, show wrap64 (i + 1) = i + 1 by unfold wrap64; omega]
    exact ih k _ (i + 1) (by omega) (by omega) (by omega)
theorem cars_f (l : List S38) (hl : l.length ≤ 1000) (k : Nat) (hk : l.length < k) (a0_1 a0_2 : Int) (l0_3 : List Int) (a0_4 a0_5 a0_6 a0_7 a0_8 a0_9 a0_10 a0_11 a0_12 : Int) :
    conf_Cars.f k l a0_1 a0_2 l0_3 a0_4 a0_5 a0_6 a0_7 a0_8 a0_9 a0_10 a0_11 a0_12 = some (carsV l) :=
  cars_loop l hl l.length k 0 0 (by omega) (by omega) hk
/-- How many different ones there are. -/
def addN (L : List Int) (x : Int) : List Int := if L.contains x then L else L ++ [x]
def distN (l : List Int) : Nat := (l.foldl addN []).length
theorem mem_addN (l : List Int) : ∀ (L : List Int) (x : Int), x ∈ l.foldl addN L ↔ x ∈ L ∨ x ∈ l := by
  induction l with
  | nil => intro L x; simp
  | cons y l ih =>
    intro L x
    rw [List.foldl_cons, ih]
    unfold addN
    by_cases h : L.contains y = true
    · rw [if_pos h]
      simp only [List.mem_cons]
      constructor
      · rintro (h1 | h1)
        · exact .inl h1
        · exact .inr (.inr h1)
      · rintro (h1 | rfl | h1)
        · exact .inl h1
        · exact .inl (by simpa using h)
        · exact .inr h1
    · rw [if_neg h]
      simp only [List.mem_cons, List.mem_append, List.not_mem_nil, or_false]
      constructor
      · rintro ((h1 | h1) | h1)
        · exact .inl h1
        · exact .inr (.inl h1)
        · exact .inr (.inr h1)
      · rintro (h1 | h1 | h1)
        · exact .inl (.inl h1)
        · exact .inl (.inr h1)
        · exact .inr h1
theorem distN_succ (l : List Int) (x : Int) : distN (l ++ [x]) = if l.contains x then distN l else distN l + 1 := by
  unfold distN
  rw [List.foldl_append, List.foldl_cons, List.foldl_nil]
  have hm : (l.foldl addN []).contains x = l.contains x := by
    rw [Bool.eq_iff_iff, List.contains_iff_mem, List.contains_iff_mem, mem_addN]; simp
  generalize l.foldl addN [] = L at hm ⊢
  unfold addN
  rw [hm]
  split
  · rfl
  · simp
theorem rdI_take {l : List Int} {k : Nat} (hk : k < l.length) : l.take (k + 1) = l.take k ++ [rd l (k : Int)] := by
  rw [List.take_succ_eq_append_getElem hk, rdI_at hk]
/-- The map holds the first of a row. -/
def Seen (D : DataW Nat) (l : List Int) : Prop := Tidy D ∧ (∀ x : Int, has D (.int .i64 x) = l.contains x) ∧ size D = distN l
theorem Seen.nil : Seen (.map []) [] := ⟨Go.Maps.tidy_empty, fun _ => rfl, rfl⟩
theorem isKey (x : Int) : WideAt.IsKeyLit (.int .i64 x) := by simp [WideAt.IsKeyLit]
theorem Seen.put {D : DataW Nat} {l : List Int} (h : Seen D l) (x : Int) (d : DataW Nat) : Seen (D.put (.int .i64 x) d) (l ++ [x]) := by
  refine ⟨h.1.put (isKey x) d, fun y => ?_, ?_⟩
  · by_cases e : y = x
    · subst e
      rw [Go.Maps.has_put_same h.1.isMap (isKey y)]
      symm; rw [List.contains_iff_mem]; simp
    · rw [Go.Maps.has_put_other (by intro he; injection he with _ he; exact e he), h.2.1 y, Bool.eq_iff_iff, List.contains_iff_mem, List.contains_iff_mem]
      simp [e]
  · rw [Go.Maps.size_put h.1, h.2.1 x, h.2.2, distN_succ]
theorem lawI : Keyed Try.prog 3 := Go.Maps.int_keyed Try.underlying3
theorem zeroI (w : World) : (zeroValue 3).run Try.prog w = .ok (.int .i64 0) w := by kernel_rfl
/-- The group's own copy. -/
def BX (A B : Option Addr) (n cn m cm : Nat) (x1 x2 x4 x5 x6 x7 x8 x9 x10 x11 x12 : Int) (g : Nat) (w : World) : Prop :=
  w.heap[g]? = some (.cells #[.slice A n cn, .int .i64 x1, .int .i64 x2, .slice B m cm, .int .i64 x4, .int .i64 x5, .int .i64 x6, .int .i64 x7, .int .i64 x8, .int .i64 x9, .int .i64 x10, .int .i64 x11, .int .i64 x12] 25 (0, 0))
theorem below_grown {B : Nat} {w w' : World} (h : Below B w w') (hB : w.heap.size ≤ B) : w.grownBy w' none := ⟨h.os, h.tape, h.output, h.size, fun i hi _ => h.block i (by omega)⟩
theorem own_es {w : World} {b n : Nat} {D : DataW Nat} (h : w.ownsMap Try.prog 3 (plainElem Try.prog 3) b n D) : ∃ es cl, w.heap[b]? = some (.map es cl) ∧ es.size = size D := by
  obtain ⟨es, cl, hb, _, _, rfl⟩ := h
  exact ⟨es, cl, hb, by simp [Go.Maps.size, length_sorted]⟩
theorem len_map (w : World) (b : Nat) (es : Array MapEntry) (cl : Nat) (h : w.heap[b]? = some (.map es cl)) : (Builtin.len_ #[107] 3 #[.map (some b)]).run Try.prog w = .ok (.int .i64 es.size) w := by
  simp [Builtin.len_, run_underlying Try.underlying107, MapKept.run_getObj_map h, goInt, Result.andThen]
/-- The state of a run's end. -/
def FN (A B : Option Addr) (n cn m cm : Nat) (x1 x2 x4 x5 x6 x7 x8 x9 x10 x11 x12 : Int) (g : Nat) (es : Array MapEntry) (cl : Nat) (w w' : World) : Prop :=
  BX A B n cn m cm x1 x2 x4 x5 x6 x7 x8 x9 x10 x11 x12 g w' ∧ w'.heap[g + 1]? = some (.map es cl) ∧ Below w.heap.size w w'
section
variable {A B : Option Addr} {n cn m cm : Nat} {x1 x2 x4 x5 x6 x7 x8 x9 x10 x11 x12 : Int} {g : Nat} {es : Array MapEntry} {cl : Nat} {w w' w2 : World}
theorem FN.below (h : FN A B n cn m cm x1 x2 x4 x5 x6 x7 x8 x9 x10 x11 x12 g es cl w w') (hb : Below w'.heap.size w' w2) : FN A B n cn m cm x1 x2 x4 x5 x6 x7 x8 x9 x10 x11 x12 g es cl w w2 :=
  ⟨blk_below h.1 hb, blk_below h.2.1 hb, below_step h.2.2 hb⟩
theorem FN.drew (h : FN A B n cn m cm x1 x2 x4 x5 x6 x7 x8 x9 x10 x11 x12 g es cl w w') : FN A B n cn m cm x1 x2 x4 x5 x6 x7 x8 x9 x10 x11 x12 g es cl w w'.drew := ⟨h.1, h.2.1, h.2.2.drew⟩
theorem FN.cells (h : FN A B n cn m cm x1 x2 x4 x5 x6 x7 x8 x9 x10 x11 x12 g es cl w w') : w'.cell? ⟨g, 0, none⟩ = some (.slice A n cn) ∧ w'.cell? ⟨g, 1, none⟩ = some (.int .i64 x1) ∧ w'.cell? ⟨g, 2, none⟩ = some (.int .i64 x2) ∧ w'.cell? ⟨g, 3, none⟩ = some (.slice B m cm) ∧ w'.cell? ⟨g, 4, none⟩ = some (.int .i64 x4) ∧ w'.cell? ⟨g, 5, none⟩ = some (.int .i64 x5) ∧ w'.cell? ⟨g, 6, none⟩ = some (.int .i64 x6) ∧ w'.cell? ⟨g, 7, none⟩ = some (.int .i64 x7) ∧ w'.cell? ⟨g, 8, none⟩ = some (.int .i64 x8) ∧ w'.cell? ⟨g, 9, none⟩ = some (.int .i64 x9) ∧ w'.cell? ⟨g, 10, none⟩ = some (.int .i64 x10) ∧ w'.cell? ⟨g, 11, none⟩ = some (.int .i64 x11) ∧ w'.cell? ⟨g, 12, none⟩ = some (.int .i64 x12) :=
  ⟨(blk_cell h.1 0).trans rfl, (blk_cell h.1 1).trans rfl, (blk_cell h.1 2).trans rfl, (blk_cell h.1 3).trans rfl, (blk_cell h.1 4).trans rfl, (blk_cell h.1 5).trans rfl, (blk_cell h.1 6).trans rfl, (blk_cell h.1 7).trans rfl, (blk_cell h.1 8).trans rfl, (blk_cell h.1 9).trans rfl, (blk_cell h.1 10).trans rfl, (blk_cell h.1 11).trans rfl, (blk_cell h.1 12).trans rfl⟩
end
/-- Whether the order has each car once. -/
def ordV (l : List S38) (o : List Int) : Bool :=
  o.all (fun x => inV x 0 (wrap64 (carsV l - 1))) && (decide ((o.length : Int) = carsV l) && decide (distN o = o.length))
section
variable (cn cm : Nat) (x1 x2 x4 x5 x6 x7 x8 x9 x10 x11 x12 : Int) (w : World)
set_option maxRecDepth 100000 in
set_option maxHeartbeats 4000000 in
theorem ordered_any (A B : Option Addr) (l : List S38) (o : List Int) (hr : Kd.C k38 w A l.length l) (hcn : l.length ≤ cn) (ho : Kd.C (Kd.int .i64) w B o.length o) (hcm : o.length ≤ cm) (hl : l.length ≤ 1000) (hol : o.length ≤ maxLen) :
    Calls Try.prog 72 #[confV A B l.length cn o.length cm x1 x2 x4 x5 x6 x7 x8 x9 x10 x11 x12] w fun e w' => e = .returned (.bool (ordV l o)) ∧ Below w.heap.size w w' := by
  have hmm := @run_makeMap Try.prog
  unfold confV
  have HR := Aside0.mk hr
  have HO := Aside0.mk ho
  have HC := Aside0.mk hcn
  have HCM := Aside0.mk hcm
  clear hr ho hcn hcm
  go_enter Try.func72, Try.ntmps72
  go_wp2
  obtain ⟨g, hg⟩ : ∃ g, w.heap.size = g := ⟨_, rfl⟩
  have hsz : (w.alloc (.cells #[.slice A l.length cn, .int .i64 x1, .int .i64 x2, .slice B o.length cm, .int .i64 x4, .int .i64 x5, .int .i64 x6, .int .i64 x7, .int .i64 x8, .int .i64 x9, .int .i64 x10, .int .i64 x11, .int .i64 x12] 25)).heap.size = g + 1 := by rw [alloc_sz, hg]
  have hx0 : BX A B l.length cn o.length cm x1 x2 x4 x5 x6 x7 x8 x9 x10 x11 x12 g (w.alloc (.cells #[.slice A l.length cn, .int .i64 x1, .int .i64 x2, .slice B o.length cm, .int .i64 x4, .int .i64 x5, .int .i64 x6, .int .i64 x7, .int .i64 x8, .int .i64 x9, .int .i64 x10, .int .i64 x11, .int .i64 x12] 25)) := by
    rw [← hg]; unfold BX; exact blk_new w _
  have hb0 : Below w.heap.size w (w.alloc (.cells #[.slice A l.length cn, .int .i64 x1, .int .i64 x2, .slice B o.length cm, .int .i64 x4, .int .i64 x5, .int .i64 x6, .int .i64 x7, .int .i64 x8, .int .i64 x9, .int .i64 x10, .int .i64 x11, .int .i64 x12] 25)) := below_alloc (Below.refl _ _) _
  generalize w.alloc (.cells #[.slice A l.length cn, .int .i64 x1, .int .i64 x2, .slice B o.length cm, .int .i64 x4, .int .i64 x5, .int .i64 x6, .int .i64 x7, .int .i64 x8, .int .i64 x9, .int .i64 x10, .int .i64 x11, .int .i64 x12] 25) = W1 at hsz hx0 hb0 ⊢
  have HM := Aside0.mk (hsz ▸ World.ownsMap_made (H := Nat) W1 Try.prog 3 (plainElem Try.prog 3))
  have HX := Aside0.mk (show BX A B l.length cn o.length cm x1 x2 x4 x5 x6 x7 x8 x9 x10 x11 x12 g (W1.alloc (.map #[] 0)) from blk_below hx0 (below_alloc (Below.refl _ _) _))
  have HB := Aside0.mk (show Below w.heap.size w (W1.alloc (.map #[] 0)) from below_alloc hb0 _)
  have HG := Aside0.mk (show w.heap.size ≤ g by omega)
  clear hsz hx0 hb0
  rw [hg]
  clear hg
  go_loopw [10] (fun i wr => ∃ (k : Nat) (D : DataW Nat), k ≤ o.length ∧ i = .int .i64 k ∧ Aside0 ((o.take k).all (fun x => inV x 0 (wrap64 (carsV l - 1))) = true) ∧ Aside0 (Seen D (o.take k)) ∧ Aside0 (wr.ownsMap Try.prog 3 (plainElem Try.prog 3) (g + 1) k D) ∧ Aside0 (BX A B l.length cn o.length cm x1 x2 x4 x5 x6 x7 x8 x9 x10 x11 x12 g wr) ∧ Aside0 (Below w.heap.size w wr)) (fun i _ => o.length - (intOf i).toNat)
  case atStart => exact ⟨0, _, Nat.zero_le _, rfl, ⟨rfl⟩, ⟨Seen.nil⟩, HM, HX, HB⟩
  case round =>
    clear HM HX HB
    obtain ⟨k, D, hk, rfl, HA, HS, HM, HX, HB⟩ := hrel
    have c0 := (blk_cell HX.out 0).trans rfl
    have c1 := (blk_cell HX.out 1).trans rfl
    have c2 := (blk_cell HX.out 2).trans rfl
    have c3 := (blk_cell HX.out 3).trans rfl
    have c4 := (blk_cell HX.out 4).trans rfl
    have c5 := (blk_cell HX.out 5).trans rfl
    have c6 := (blk_cell HX.out 6).trans rfl
    have c7 := (blk_cell HX.out 7).trans rfl
    have c8 := (blk_cell HX.out 8).trans rfl
    have c9 := (blk_cell HX.out 9).trans rfl
    have c10 := (blk_cell HX.out 10).trans rfl
    have c11 := (blk_cell HX.out 11).trans rfl
    have c12 := (blk_cell HX.out 12).trans rfl
    by_cases hlt : k < o.length
    · have p1 : 0 ≤ (k : Int) := Int.natCast_nonneg _
      have q1 : (k : Int) < (o.length : Int) := by omega
      have q2 : (k : Int) < 9223372036854775807 := by unfold maxLen at hol; omega
      obtain ⟨ad, e1, hx0⟩ := Kd.at_int HO.out (k : Int) p1 q1
      cases e1
      replace hx0 := (HB.out.cell (World.block_lt_of_cell? w _ hx0)).trans hx0
      rw [Int.toNat_natCast] at hx0
      have HT := Aside0.mk (rdI_take hlt)
      obtain ⟨x, hx⟩ : ∃ x, rd o (k : Int) = x := ⟨_, rfl⟩
      rw [hx] at hx0 HT
      clear hx
      obtain ⟨b, hb0⟩ : ∃ b, inV x 0 (wrap64 (carsV l - 1)) = b := ⟨_, rfl⟩
      have HI := Aside0.mk hb0
      have CF := Aside0.mk (cars_f l hl 1001 (by omega) x1 x2 o x4 x5 x6 x7 x8 x9 x10 x11 x12)
      obtain ⟨n, hn⟩ : ∃ n, carsV l = n := ⟨_, rfl⟩
      rw [hn] at HI hb0 CF
      have HN := Aside0.mk hn
      clear hn
      cases b with
      | false =>
        have HF := Aside0.mk (show o.all (fun x => inV x 0 (wrap64 (carsV l - 1))) = false by
          rw [HN.out]
          refine List.all_eq_false.2 ⟨x, ?_, by rw [hb0]; simp⟩
          have : x ∈ o.take (k + 1) := by rw [HT.out]; simp
          exact List.mem_of_mem_take this)
        clear hb0
        go_wp2_with fail
        refine (conf_Cars.calls 1001 A cn l x1 x2 _ cm o x4 x5 x6 x7 x8 x9 x10 x11 x12 n _ (Kd.C_below HR.out HB.out) HC.out (Kd.C_below HO.out HB.out) HCM.out CF.out).mono ?_
        rintro e w2 ⟨rfl, hb⟩
        have HB2 := Aside0.mk (below_step HB.out hb)
        clear hb
        go_wp2_with (first | (go_at_call 62; with_reducible refine (in_b (x := x) (a := 0) (b := wrap64 (n - 1)) HI.out _).mono ?_; rintro e w1 ⟨rfl, nd, rfl⟩))
        go_ret
        refine ⟨?_, pw_below_drewN HB2.out _⟩
        unfold ordV
        rw [HF.out]; rfl
      | true =>
        have HF := Aside0.mk (show (o.take (k + 1)).all (fun x => inV x 0 (wrap64 (carsV l - 1))) = true by
          rw [HT.out, List.all_append, HA.out, HN.out]; simp [hb0])
        have hin : 0 ≤ x ∧ x ≤ 9223372036854775807 := by
          have h1 := hb0
          unfold inV at h1
          simp at h1
          have : wrap64 (n - 1) ≤ 9223372036854775807 := by unfold wrap64; omega
          omega
        have HKEY := Aside0.mk (show keyOf Try.prog 3 (.int .i64 x) = some (.int .i64 x) from Go.Maps.keyOf_int_mk Try.underlying3 (by simp [Lit.wf, IntKind.min, IntKind.max, IntKind.bits, IntKind.signed]; omega))
        clear hb0 hin
        go_wp2_with fail
        refine (conf_Cars.calls 1001 A cn l x1 x2 _ cm o x4 x5 x6 x7 x8 x9 x10 x11 x12 n _ (Kd.C_below HR.out HB.out) HC.out (Kd.C_below HO.out HB.out) HCM.out CF.out).mono ?_
        rintro e w2 ⟨rfl, hb⟩
        have HB2 := Aside0.mk (below_step HB.out hb)
        have HX2 := Aside0.mk (show BX A (some ad) l.length cn o.length cm x1 x2 x4 x5 x6 x7 x8 x9 x10 x11 x12 g w2 from blk_below HX.out hb)
        have HM2 := Aside0.mk (HM.out.kept (below_grown hb (Nat.le_refl _)) (by simp))
        clear hb
        go_wp2_with fail
        with_reducible refine (in_b (x := x) (a := 0) (b := wrap64 (n - 1)) HI.out _).mono ?_
        rintro e w1 ⟨rfl, nd, rfl⟩
        have HM3 := Aside0.mk (show (w2.drewN nd).ownsMap Try.prog 3 (plainElem Try.prog 3) (g + 1) k D from HM2.out)
        go_wp2_with (first
          | (at_lookup; refine wpList_lookup_own_int _ rfl _ _ 107 rfl 3 3 .i64 lawI Try.underlying107 Try.underlying3 (zeroI _) (g + 1) k _ rfl HM3.out _ _ rfl HKEY.out ?_; intro c hat hwc)
          | (at_mapUpdate; refine wpList_mapUpdate_own _ rfl _ _ _ 107 rfl 3 3 lawI Try.underlying107 _ (g + 1) k _ rfl HM3.out (by omega) _ _ _ rfl rfl HKEY.out _ [] (plainElem_int Try.underlying3 (wrap64_wf _)) ?_; intro w4 hown4 hgrow4))
        go_roundw
        case rel => exact ⟨k + 1, _, by omega, by go_num, HF, ⟨by rw [HT.out]; exact HS.out.put x _⟩, ⟨hown4⟩, ⟨(hgrow4.block g (blk_lt HX2.out) (by simp)).trans HX2.out⟩, ⟨(pw_below_drewN HB2.out nd).grown hgrow4 (below_size (pw_below_drewN HB2.out nd)) (fun j hj => by cases hj; have := HG.out; omega)⟩⟩
        case measure => simp [intOf]; omega
    · have hkd : ¬ (k : Int) < (o.length : Int) := by omega
      obtain rfl : k = o.length := by omega
      rw [List.take_length] at HA HS
      have CF := Aside0.mk (cars_f l hl 1001 (by omega) x1 x2 o x4 x5 x6 x7 x8 x9 x10 x11 x12)
      obtain ⟨n, hn⟩ : ∃ n, carsV l = n := ⟨_, rfl⟩
      rw [hn] at CF
      have HN := Aside0.mk hn
      obtain ⟨es, cl, hes, hsz⟩ := own_es HM.out
      have HSZ := Aside0.mk (hsz.trans HS.out.2.2)
      have hF : FN A B l.length cn o.length cm x1 x2 x4 x5 x6 x7 x8 x9 x10 x11 x12 g es cl w wr := ⟨HX.out, hes, HB.out⟩
      have HF := Aside0.mk hF.drew
      have hC := hF.drew.cells
      have hes2 : wr.drew.heap[g + 1]? = some (.map es cl) := hes
      have HLn : ∀ W : World, W.heap[g + 1]? = some (.map es cl) → (Builtin.len_ #[107] 3 #[.map (some (g + 1))]).run Try.prog W = .ok (.int .i64 es.size) W := fun W h => len_map W (g + 1) es cl h
      have HALL := Aside0.mk (show o.all (fun x => inV x 0 (wrap64 (carsV l - 1))) = true from HA.out)
      clear hn hsz hF hes c0 c1 c2 c3 c4 c5 c6 c7 c8 c9 c10 c11 c12
      by_cases hq : (o.length : Int) = n
      · have HQ := Aside0.mk hq
        have hqd : decide ((o.length : Int) = n) = true := decide_eq_true hq
        have hqb : ((o.length : Int) == n) = true := by simpa using hq
        go_wp2_with fail
        go_region_held3 (fun w' => (w'.cell? ⟨g, 0, none⟩ = some (.slice A l.length cn) ∧ w'.cell? ⟨g, 1, none⟩ = some (.int .i64 x1) ∧ w'.cell? ⟨g, 2, none⟩ = some (.int .i64 x2) ∧ w'.cell? ⟨g, 3, none⟩ = some (.slice B o.length cm) ∧ w'.cell? ⟨g, 4, none⟩ = some (.int .i64 x4) ∧ w'.cell? ⟨g, 5, none⟩ = some (.int .i64 x5) ∧ w'.cell? ⟨g, 6, none⟩ = some (.int .i64 x6) ∧ w'.cell? ⟨g, 7, none⟩ = some (.int .i64 x7) ∧ w'.cell? ⟨g, 8, none⟩ = some (.int .i64 x8) ∧ w'.cell? ⟨g, 9, none⟩ = some (.int .i64 x9) ∧ w'.cell? ⟨g, 10, none⟩ = some (.int .i64 x10) ∧ w'.cell? ⟨g, 11, none⟩ = some (.int .i64 x11) ∧ w'.cell? ⟨g, 12, none⟩ = some (.int .i64 x12)) ∧ w'.heap[g + 1]? = some (.map es cl) ∧ Aside0 (FN A B l.length cn o.length cm x1 x2 x4 x5 x6 x7 x8 x9 x10 x11 x12 g es cl w w'))
          (first | exact ⟨hC, hes2, HF⟩ | exact ⟨F2.cells, F2.2.1, Aside0.mk F2⟩ | go_keep)
          (first | (go_at_call 22; refine (conf_Cars.calls 1001 A cn l x1 x2 _ cm o x4 x5 x6 x7 x8 x9 x10 x11 x12 n _ (Kd.C_below HR.out HF.out.2.2) HC.out (Kd.C_below HO.out HF.out.2.2) HCM.out CF.out).mono ?_; rintro e w2 ⟨rfl, hb⟩; have F2 := HF.out.below hb))
        go_wp2_with fail
        go_ret
        have e : ordV l o = ((es.size : Int) == n) := by
          unfold ordV
          rw [HALL.out, HN.out, decide_eq_true HQ.out, ← HQ.out, HSZ.out, Bool.true_and, Bool.true_and, Bool.eq_iff_iff]
          simp
          omega
        exact ⟨by rw [e]; rfl, F2.2.2⟩
      · have HQ := Aside0.mk hq
        have hqd : decide ((o.length : Int) = n) = false := decide_eq_false hq
        have hqb : ((o.length : Int) == n) = false := by simpa using hq
        have hV := Aside0.mk (show ordV l o = false by unfold ordV; rw [HN.out, hqd, Bool.false_and, Bool.and_false])
        obtain ⟨c0, c1, c2, c3, c4, c5, c6, c7, c8, c9, c10, c11, c12⟩ := hC
        go_wp2_with fail
        first | (go_region_law (first | (go_simp; go_at_call 22; refine (conf_Cars.calls 1001 A cn l x1 x2 _ cm o x4 x5 x6 x7 x8 x9 x10 x11 x12 n _ (Kd.C_below HR.out HF.out.2.2) HC.out (Kd.C_below HO.out HF.out.2.2) HCM.out CF.out).mono ?_; rintro e w2 ⟨rfl, hb⟩; have F2 := HF.out.below hb; obtain ⟨d0, d1, d2, d3, d4, d5, d6, d7, d8, d9, d10, d11, d12⟩ := F2.cells))) | fail "no way"
        all_goals
          go_wp2_with fail
          go_ret
          exact ⟨by rw [hV.out]; rfl, F2.2.2⟩
end
end Go.Proofs.Ytomaojmccchibaa.X
