/-
  NARROWER THAN 'FOR EVERY INPUT', by the rows' own cells (each row's printed sentence says how): PhaseTells: laid · PhaseAccepts: laid · PhaseWays: laid · PhaseSame: laid · PhaseParts: laid.
  DERIVED. THE GIVEN ROWS OF THIS SEAT. 5 by the template 'for every input the law returns true; each argument reads behind the call as it read before'; 0 by the template 'total and deterministic' (their statements: YtpnofbiflaahhaaDoorTotals.lean).
  GIVEN WITH THE SEED: the statements are not yours to turn. If you find one false, say at which input.
  Laid BY PROGRAM, IN A SANDBOX (cutbox-rows.mjs): the forced cells as the released guide's own fill.sh prints them over the translation 1f220af189bbea93… (all of the seat's roots in one cut). By AI agents, Wed Nov 11 2026. No macro, syntax, notation, axiom, sorry.
-/
import Derived.Test.YtpnofbiflaahhaaDoorChecked
import GoSem.Claim
import GoSem.ClaimJoined
import GoSem.ClaimMapViews
import Derived.JoinedTies
import Derived.KernelRfl
namespace Go.Proofs.YtpnofbiflaahhaaDoor
/- THE CELL 'sum', in the pinned program and in every row, IS THE sha256 OF THE DUMP (.gsa) THAT YtpnofbiflaahhaaDoorProg.lean LOADS. Nothing in Lean hashes anything: it is a label: what it is worth is what the hold of that sum in a sandbox is worth. -/
noncomputable def Tryd.pinned : Pinned := { name := "ytpnofbiflaahhaadoor", sum := "1f220af189bbea93d944eabd28cd0bc654fe9bae0667ebb7acc69d3514a439ad", checked := Tryd.checked }
namespace Rows
def none {H : Type} : Left H := { results := [], args := [] }

/- WHAT THE LISTED PACKAGE-LEVEL VARIABLES READ AS WHEN THE CALL BEGINS. Each datum BY PROGRAM (the guide's laid-datum.mjs) off the statement by which the dump's own 'gosem.cut.vars' lays the variable. In a bare row this is a premise. The card (YtpnofbiflaahhaaDoorCards.lean) ties it to the program's text. -/
def laid_paternoster_phase_names {H : Type} : DataW H := .agg [.lit (.string [110, 111, 114, 109, 97, 108]), .lit (.string [115, 116, 97, 108, 108, 101, 100]), .lit (.string [114, 101, 99, 97, 108, 108]), .lit (.string [112, 97, 114, 107, 101, 100]), .lit (.string [115, 101, 114, 118, 105, 110, 103]), .lit (.string [111, 117, 116])]
def laid_paternoster_phase_next {H : Type} : DataW H := .agg [.lit (.int .i64 35), .lit (.int .i64 39), .lit (.int .i64 46), .lit (.int .i64 59), .lit (.int .i64 59), .lit (.int .i64 35)]

/-- 'paternosterlaw21.PhaseTells': WHATEVER THE INPUT: true; the input reads as it did. -/
def phaseTellsSpec : ChangeSpec := { name := "phaseTells", fn := fun _ => fun
  | [d1, d2, d3, d4] => { results := [.lit (.bool true)], args := [d1, d2, d3, d4] }
  | _ => none }
def phaseTellsRow : OpenClaim := { program := "ytpnofbiflaahhaadoor", sum := "1f220af189bbea93d944eabd28cd0bc654fe9bae0667ebb7acc69d3514a439ad", func := "paternoster/paternosterlaw21.PhaseTells", spec := "phaseTells", named := ["paternoster/phase.next", "paternoster/phase.names"], apart := false, laid := [("paternoster/phase.names", laid_paternoster_phase_names), ("paternoster/phase.next", laid_paternoster_phase_next)] }
def PhaseTellsSaid : Prop := phaseTellsRow.holds Tryd.pinned (OpenSpec.ofChange phaseTellsSpec)

/-- ITS FALSE NEIGHBOUR: 'it returns false'. Refute it at one input. -/
def phaseTellsWrong : ChangeSpec := { name := "phaseTells", fn := fun _ => fun
  | [d1, d2, d3, d4] => { results := [.lit (.bool false)], args := [d1, d2, d3, d4] }
  | _ => none }
def PhaseTellsWrongFalsely : Prop := phaseTellsRow.holds Tryd.pinned (OpenSpec.ofChange phaseTellsWrong)

/-- 'paternosterlaw21.PhaseAccepts': WHATEVER THE INPUT: true; the input reads as it did. -/
def phaseAcceptsSpec : ChangeSpec := { name := "phaseAccepts", fn := fun _ => fun
  | [d1, d2] => { results := [.lit (.bool true)], args := [d1, d2] }
  | _ => none }
def phaseAcceptsRow : OpenClaim := { program := "ytpnofbiflaahhaadoor", sum := "1f220af189bbea93d944eabd28cd0bc654fe9bae0667ebb7acc69d3514a439ad", func := "paternoster/paternosterlaw21.PhaseAccepts", spec := "phaseAccepts", named := ["paternoster/phase.next", "paternoster/phase.names"], apart := false, laid := [("paternoster/phase.names", laid_paternoster_phase_names), ("paternoster/phase.next", laid_paternoster_phase_next)] }
def PhaseAcceptsSaid : Prop := phaseAcceptsRow.holds Tryd.pinned (OpenSpec.ofChange phaseAcceptsSpec)

/-- ITS FALSE NEIGHBOUR: 'it returns false'. Refute it at one input. -/
def phaseAcceptsWrong : ChangeSpec := { name := "phaseAccepts", fn := fun _ => fun
  | [d1, d2] => { results := [.lit (.bool false)], args := [d1, d2] }
  | _ => none }
def PhaseAcceptsWrongFalsely : Prop := phaseAcceptsRow.holds Tryd.pinned (OpenSpec.ofChange phaseAcceptsWrong)

/-- 'paternosterlaw21.PhaseWays': WHATEVER THE INPUT: true; the input reads as it did. -/
def phaseWaysSpec : ChangeSpec := { name := "phaseWays", fn := fun _ => fun
  | [d] => { results := [.lit (.bool true)], args := [d] }
  | _ => none }
def phaseWaysRow : OpenClaim := { program := "ytpnofbiflaahhaadoor", sum := "1f220af189bbea93d944eabd28cd0bc654fe9bae0667ebb7acc69d3514a439ad", func := "paternoster/paternosterlaw21.PhaseWays", spec := "phaseWays", named := ["paternoster/phase.next", "paternoster/phase.names"], apart := false, laid := [("paternoster/phase.names", laid_paternoster_phase_names), ("paternoster/phase.next", laid_paternoster_phase_next)] }
def PhaseWaysSaid : Prop := phaseWaysRow.holds Tryd.pinned (OpenSpec.ofChange phaseWaysSpec)

/-- ITS FALSE NEIGHBOUR: 'it returns false'. Refute it at one input. -/
def phaseWaysWrong : ChangeSpec := { name := "phaseWays", fn := fun _ => fun
  | [d] => { results := [.lit (.bool false)], args := [d] }
  | _ => none }
def PhaseWaysWrongFalsely : Prop := phaseWaysRow.holds Tryd.pinned (OpenSpec.ofChange phaseWaysWrong)

/-- 'paternosterlaw21.PhaseSame': WHATEVER THE INPUT: true; the input reads as it did. -/
def phaseSameSpec : ChangeSpec := { name := "phaseSame", fn := fun _ => fun
  | [d1, d2] => { results := [.lit (.bool true)], args := [d1, d2] }
  | _ => none }
def phaseSameRow : OpenClaim := { program := "ytpnofbiflaahhaadoor", sum := "1f220af189bbea93d944eabd28cd0bc654fe9bae0667ebb7acc69d3514a439ad", func := "paternoster/paternosterlaw21.PhaseSame", spec := "phaseSame", named := ["paternoster/phase.next", "paternoster/phase.names"], apart := false, laid := [("paternoster/phase.names", laid_paternoster_phase_names), ("paternoster/phase.next", laid_paternoster_phase_next)] }
def PhaseSameSaid : Prop := phaseSameRow.holds Tryd.pinned (OpenSpec.ofChange phaseSameSpec)

/-- ITS FALSE NEIGHBOUR: 'it returns false'. Refute it at one input. -/
def phaseSameWrong : ChangeSpec := { name := "phaseSame", fn := fun _ => fun
  | [d1, d2] => { results := [.lit (.bool false)], args := [d1, d2] }
  | _ => none }
def PhaseSameWrongFalsely : Prop := phaseSameRow.holds Tryd.pinned (OpenSpec.ofChange phaseSameWrong)

/-- 'paternosterlaw21.PhaseParts': WHATEVER THE INPUT: true; the input reads as it did. -/
def phasePartsSpec : ChangeSpec := { name := "phaseParts", fn := fun _ => fun
  | [d1, d2] => { results := [.lit (.bool true)], args := [d1, d2] }
  | _ => none }
def phasePartsRow : OpenClaim := { program := "ytpnofbiflaahhaadoor", sum := "1f220af189bbea93d944eabd28cd0bc654fe9bae0667ebb7acc69d3514a439ad", func := "paternoster/paternosterlaw21.PhaseParts", spec := "phaseParts", named := ["paternoster/phase.next", "paternoster/phase.names"], apart := false, laid := [("paternoster/phase.names", laid_paternoster_phase_names), ("paternoster/phase.next", laid_paternoster_phase_next)] }
def PhasePartsSaid : Prop := phasePartsRow.holds Tryd.pinned (OpenSpec.ofChange phasePartsSpec)

/-- ITS FALSE NEIGHBOUR: 'it returns false'. Refute it at one input. -/
def phasePartsWrong : ChangeSpec := { name := "phaseParts", fn := fun _ => fun
  | [d1, d2] => { results := [.lit (.bool false)], args := [d1, d2] }
  | _ => none }
def PhasePartsWrongFalsely : Prop := phasePartsRow.holds Tryd.pinned (OpenSpec.ofChange phasePartsWrong)

/- THE SECOND FORM. 'bulk': how many values and letters a reading holds, each counted each time it is reached (what is shared counts as often as it is met; a slice's spare places count too). A statement '..UptoSaid' is the law's where the arguments, and the package variables that the reading takes, are together of bulk at most 1048576: NARROWER than '..Said'. Prove '..Said' where nothing that the law and all that it calls make is longer than what came in: it says more and counts as full. Else prove '..UptoSaid'. A law counts once. -/
mutual
def uptoBulk {H : Type} : DataW H → Nat
  | .lit (.string bytes) => bytes.length + 1
  | .lit _ => 1
  | .nil => 1
  | .ptr d => uptoBulk d + 1
  | .slice elems spare => uptoBulkAll elems + uptoBulkAll spare + 1
  | .agg parts => uptoBulkAll parts + 1
  | .iface _ d => uptoBulk d + 1
  | .map entries => uptoBulkEntries entries + 1
  | .held _ => 1
def uptoBulkAll {H : Type} : List (DataW H) → Nat
  | [] => 0
  | d :: r => uptoBulk d + uptoBulkAll r
def uptoBulkEntries {H : Type} : List (Lit × DataW H) → Nat
  | [] => 0
  | x :: r => uptoBulkEntry x + uptoBulkEntries r
def uptoBulkEntry {H : Type} : Lit × DataW H → Nat
  | (.string bytes, d) => bytes.length + uptoBulk d + 1
  | (_, d) => uptoBulk d + 1
 end
def uptoSmall : (H : Type) → List (DataW H) → Bool := fun _ ds => decide (uptoBulkAll ds ≤ 1048576)
def OpenSpec.upto (s : _root_.Go.ChangeSpec) : _root_.Go.OpenSpec := { _root_.Go.OpenSpec.ofChange s with cond := some uptoSmall }

/-- 'paternosterlaw21.PhaseTells', WHERE WHAT IT READS IS OF BULK AT MOST 1048576: true; the input reads as it did. -/
def phaseTellsUptoRow : OpenClaim := { program := "ytpnofbiflaahhaadoor", sum := "1f220af189bbea93d944eabd28cd0bc654fe9bae0667ebb7acc69d3514a439ad", func := "paternoster/paternosterlaw21.PhaseTells", spec := "phaseTells", named := ["paternoster/phase.next", "paternoster/phase.names"], apart := false, laid := [("paternoster/phase.names", laid_paternoster_phase_names), ("paternoster/phase.next", laid_paternoster_phase_next)], narrowed := true }
def PhaseTellsUptoSaid : Prop := phaseTellsUptoRow.holds Tryd.pinned (OpenSpec.upto phaseTellsSpec)

/-- 'paternosterlaw21.PhaseAccepts', WHERE WHAT IT READS IS OF BULK AT MOST 1048576: true; the input reads as it did. -/
def phaseAcceptsUptoRow : OpenClaim := { program := "ytpnofbiflaahhaadoor", sum := "1f220af189bbea93d944eabd28cd0bc654fe9bae0667ebb7acc69d3514a439ad", func := "paternoster/paternosterlaw21.PhaseAccepts", spec := "phaseAccepts", named := ["paternoster/phase.next", "paternoster/phase.names"], apart := false, laid := [("paternoster/phase.names", laid_paternoster_phase_names), ("paternoster/phase.next", laid_paternoster_phase_next)], narrowed := true }
def PhaseAcceptsUptoSaid : Prop := phaseAcceptsUptoRow.holds Tryd.pinned (OpenSpec.upto phaseAcceptsSpec)

/-- 'paternosterlaw21.PhaseWays', WHERE WHAT IT READS IS OF BULK AT MOST 1048576: true; the input reads as it did. -/
def phaseWaysUptoRow : OpenClaim := { program := "ytpnofbiflaahhaadoor", sum := "1f220af189bbea93d944eabd28cd0bc654fe9bae0667ebb7acc69d3514a439ad", func := "paternoster/paternosterlaw21.PhaseWays", spec := "phaseWays", named := ["paternoster/phase.next", "paternoster/phase.names"], apart := false, laid := [("paternoster/phase.names", laid_paternoster_phase_names), ("paternoster/phase.next", laid_paternoster_phase_next)], narrowed := true }
def PhaseWaysUptoSaid : Prop := phaseWaysUptoRow.holds Tryd.pinned (OpenSpec.upto phaseWaysSpec)

/-- 'paternosterlaw21.PhaseSame', WHERE WHAT IT READS IS OF BULK AT MOST 1048576: true; the input reads as it did. -/
def phaseSameUptoRow : OpenClaim := { program := "ytpnofbiflaahhaadoor", sum := "1f220af189bbea93d944eabd28cd0bc654fe9bae0667ebb7acc69d3514a439ad", func := "paternoster/paternosterlaw21.PhaseSame", spec := "phaseSame", named := ["paternoster/phase.next", "paternoster/phase.names"], apart := false, laid := [("paternoster/phase.names", laid_paternoster_phase_names), ("paternoster/phase.next", laid_paternoster_phase_next)], narrowed := true }
def PhaseSameUptoSaid : Prop := phaseSameUptoRow.holds Tryd.pinned (OpenSpec.upto phaseSameSpec)

/-- 'paternosterlaw21.PhaseParts', WHERE WHAT IT READS IS OF BULK AT MOST 1048576: true; the input reads as it did. -/
def phasePartsUptoRow : OpenClaim := { program := "ytpnofbiflaahhaadoor", sum := "1f220af189bbea93d944eabd28cd0bc654fe9bae0667ebb7acc69d3514a439ad", func := "paternoster/paternosterlaw21.PhaseParts", spec := "phaseParts", named := ["paternoster/phase.next", "paternoster/phase.names"], apart := false, laid := [("paternoster/phase.names", laid_paternoster_phase_names), ("paternoster/phase.next", laid_paternoster_phase_next)], narrowed := true }
def PhasePartsUptoSaid : Prop := phasePartsUptoRow.holds Tryd.pinned (OpenSpec.upto phasePartsSpec)

end Rows
end Go.Proofs.YtpnofbiflaahhaaDoor
